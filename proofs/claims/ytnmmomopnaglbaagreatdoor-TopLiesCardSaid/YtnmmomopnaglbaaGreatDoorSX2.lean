/- Symbolic execution of the model's code, 2 of 3 (the parts of wip/sx2 joined by wip/sx2/merge3.py). No conditions. -/
import Derived.Test.YtnmmomopnaglbaaGreatDoorSX1
import Derived.Test.YtnmmomopnaglbaaGreatDoorWLast
import Derived.LoopN
import Derived.Scope
/- Symbolic execution of the model's code, part 7: the operations that make or write memory do what part 6 says. -/
namespace Go.SX
set_option linter.unusedSimpArgs false
set_option linter.unusedVariables false
variable {bs : List Ent} {ρ : Env} {P : Program} {w : World} {S : Nat → Prop} {w0 : World} {mem : List AObj}

theorem RelM.put (h : RelM bs ρ S w0 mem w) {id : Nat} {c c' : List AV} {ty : TypeId} {g : Option Nat} {b : Ent} {vs vs' tail : List Value} (hid : mem[id]? = some (.cells c ty true g)) (hb : bs[id]? = some b)
    {pre : List Value} (hvs : w.heap[b.blk]? = some (.cells (pre ++ (vs ++ tail)).toArray ty (0, 0))) (hpre : pre.length = b.base) (hg : ∀ s, g = some s → (vs ++ tail).length = b.cap * s ∧ b.cap ≤ maxLen) (hc : dvl bs ρ c' = some vs') (hl : vs'.length = vs.length) :
    RelM bs ρ S w0 (mem.set id (.cells c' ty true g)) (w.setRow b.blk (pre ++ (vs' ++ tail)).toArray) := by
  have hlt : id < mem.length := (List.getElem?_eq_some_iff.1 hid).1
  have hnS := h.own id _ b hid rfl hb
  have get : ∀ {i : Nat} {o}, (mem.set id (.cells c' ty true g))[i]? = some o → (i = id ∧ o = .cells c' ty true g) ∨ (i ≠ id ∧ mem[i]? = some o) := fun {i o} ho => by
    rw [List.getElem?_set] at ho
    split at ho
    · rename_i he; subst he; simp [hlt] at ho; exact .inl ⟨rfl, ho.symm⟩
    · rename_i he; exact .inr ⟨fun e => he e.symm, ho⟩
  refine ⟨by simp [h.len], ?_, ?_, ?_, h.keep.setRow _ _ hnS⟩
  · intro i o ho
    rcases get ho with ⟨rfl, rfl⟩ | ⟨hi, ho⟩
    · refine ⟨b, hb, vs', tail, hc, ⟨pre, setRow_heap w _ _ _ _ _ hvs, hpre⟩, fun s hs => ?_⟩
      have := hg s hs
      simp only [List.length_append] at this ⊢
      rw [hl]; exact this
    · obtain ⟨e, he, hr⟩ := h.rel i o ho
      refine ⟨e, he, hr.same fun hlv => setRow_other w _ _ _ ?_⟩
      exact fun e0 => h.apart id i _ o b e (Ne.symm hi) hid ho rfl hlv hb he e0.symm
  · intro i o e ho hm he
    rcases get ho with ⟨rfl, rfl⟩ | ⟨hi, ho⟩
    · exact h.own _ _ e hid rfl he
    · exact h.own i o e ho hm he
  · intro i j o o' e e' hij ho ho' hm hlv he he'
    rcases get ho with ⟨rfl, rfl⟩ | ⟨hi, po⟩ <;> rcases get ho' with ⟨rfl, rfl⟩ | ⟨hj, po'⟩
    · exact absurd rfl hij
    · exact h.apart _ j _ o' e e' hij hid po' rfl hlv he he'
    · exact h.apart i _ o _ e e' hij po hid hm trivial he he'
    · exact h.apart i j o o' e e' hij po po' hm hlv he he'

theorem length_rep {α : Type} (l : List α) (n : Nat) : ((List.range n).flatMap fun _ => l).length = n * l.length := by
  induction n with
  | zero => simp
  | succ n ih => rw [List.range_succ, List.flatMap_append, List.length_append, ih, Nat.succ_mul]; simp

theorem zeros_eq (zs : List Value) (s len : Nat) (hz : zs.length = s) (hs : 0 < s) :
    ((Array.range (len * s)).map (fun i => zs.toArray[i % zs.toArray.size]!)) = ((List.range len).flatMap fun _ => zs).toArray := by
  apply Array.ext'
  simp only [Array.toList_map, Array.toList_range, List.size_toArray, hz]
  induction len with
  | zero => simp
  | succ n ih =>
    rw [Nat.succ_mul, List.range_add, List.map_append, ih, List.range_succ, List.flatMap_append]
    congr 1
    simp only [List.map_map, List.flatMap_cons, List.flatMap_nil, List.append_nil]
    apply List.ext_getElem?
    intro j
    simp only [List.getElem?_map, List.getElem?_range]
    by_cases hj : j < s
    · have h1 : (n * s + j) % s = j := by rw [Nat.add_comm, Nat.add_mul_mod_self_right, Nat.mod_eq_of_lt hj]
      have h2 : j < zs.length := by omega
      simp [hj, h1, h2]
    · have h2 : zs.length ≤ j := by omega
      simp [hj, h2]

theorem dvl_zeros {c : List AV} {vs : List Value} (h : dvl bs ρ c = some vs) (n : Nat) : dvl bs ρ ((List.range n).flatMap fun _ => c) = some ((List.range n).flatMap fun _ => vs) := by
  induction n with
  | zero => rfl
  | succ n ih =>
    rw [List.range_succ, List.flatMap_append, List.flatMap_append]
    exact dvl_append ih (by simpa using h)

/-- A row at a place of a block. -/
def OwnAt (w : World) (e : TypeId) (size g o n cap : Nat) (xs : List Value) : Prop :=
  ∃ pre cur : List Value, w.heap[g]? = some (.cells (pre ++ cur).toArray e (0, 0)) ∧ pre.length = o ∧ cur.length = cap * size ∧ cur.take (n * size) = xs
theorem run_append_room_at (w : World) (t ty e : TypeId) (i : TypeInfo) (ht : P.underlying t = some (.slice e)) (hi : P.info? e = some i)
    (g o sLen sCap : Nat) (cur : Array Value) (hg : w.heap[g]? = some (.cells cur e (0, 0)))
    (a : Addr) (m c : Nat) (news : List Value) (hl : news.length = m * i.size) (hnews : ∀ j u, news[j]? = some u → w.cell? (a.add j) = some u) (h1 : ∀ u ∈ news, u.oneCell' = true)
    (hroom : sLen + m ≤ sCap) (hfit : o + sLen * i.size + news.length ≤ cur.size) :
    (Builtin.append_ #[t, t] ty #[.slice (some ⟨g, o, none⟩) sLen sCap, .slice (some a) m c]).run P w =
      .ok (.slice (some ⟨g, o, none⟩) (sLen + m) sCap) (w.setRow g (cur.toList.take (o + sLen * i.size) ++ news ++ cur.toList.drop (o + sLen * i.size + news.length)).toArray) := by
  have hf := run_firstCells_some (P := P) w i.size m a m c news hl hnews
  have hst := run_storeCells_at P g (o + sLen * i.size) e news 0 cur w hg (by simpa using hfit) h1
  simp only [Nat.add_zero] at hst
  simp [Builtin.append_, run_underlying ht, sizeOf, typeInfo, hi, Builtin.lenOf, hroom, hf, add_at, hst]
theorem append_at {t ty e : TypeId} {i : TypeInfo} {z : Value} (ht : P.underlying t = some (.slice e)) (hi : P.info? e = some i) (hz : i.zero = some z) (hzs : z.cells.size = i.size) (hsz : 0 < i.size)
    {v : Value} {n : Nat} {xs : List Value} (hxl : xs.length = n * i.size)
    (hown : (v = .slice none 0 0 ∧ n = 0) ∨ ∃ g o cap, v = .slice (some ⟨g, o, none⟩) n cap ∧ n ≤ cap ∧ cap ≤ maxLen ∧ OwnAt w e i.size g o n cap xs)
    {a : Addr} {m c : Nat} {news : List Value} (hl : news.length = m * i.size) (hnews : ∀ (j : Nat) u, news[j]? = some u → w.cell? (a.add j) = some u) (h1 : ∀ u ∈ news, u.oneCell' = true)
    (hm : v = .slice none 0 0 → 0 < m) (h63 : n + m ≤ maxLen) (hbytes : (n + m) * i.bytes ≤ 140737488355328) :
    ∃ g' o' cap' w', (Builtin.append_ #[t, t] ty #[v, .slice (some a) m c]).run P w = .ok (.slice (some ⟨g', o', none⟩) (n + m) cap') w' ∧ OwnAt w' e i.size g' o' (n + m) cap' (xs ++ news) ∧ n + m ≤ cap' ∧ cap' ≤ maxLen ∧
      w.grownBy w' v.ownBlock ∧ (v.ownBlock = some g' ∨ g' = w.heap.size) := by
  have hsmall : n + m ≤ 9223372036854775807 := by simp only [maxLen] at h63; omega
  have hlen : (xs ++ news).length = (n + m) * i.size := by rw [List.length_append, hxl, hl, Nat.add_mul]
  have grown : ∀ (old : Nat), old < n + m → ∀ (row : Option Nat),
      OwnAt (w.drew.alloc (.cells (xs.toArray ++ news.toArray ++ Builtin.zeroCells z.cells (grownCap w (n + m) old e - (n + m))) e)) e i.size w.heap.size 0 (n + m) (grownCap w (n + m) old e) (xs ++ news) ∧
      n + m ≤ grownCap w (n + m) old e ∧ grownCap w (n + m) old e ≤ maxLen ∧
      w.grownBy (w.drew.alloc (.cells (xs.toArray ++ news.toArray ++ Builtin.zeroCells z.cells (grownCap w (n + m) old e - (n + m))) e)) row := by
    intro old ho row
    have hge := grownCap_ge w (n + m) old e
    have hcm : grownCap w (n + m) old e ≤ maxLen := grownCap_le_maxLen w (n + m) old e h63
    refine ⟨⟨[], (xs.toArray ++ news.toArray ++ Builtin.zeroCells z.cells (grownCap w (n + m) old e - (n + m))).toList, ?_, rfl, ?_, ?_⟩, hge, hcm, ⟨rfl, rfl, rfl, by simp, fun k hk _ => heap_alloc_old w.drew _ k hk⟩⟩
    · rw [List.nil_append, Array.toArray_toList]; exact heap_alloc_new w.drew _
    · simp only [Array.length_toList, Array.size_append, List.size_toArray, size_zeroCells, hzs, hxl, hl, ← Nat.add_mul]
      congr 1
      omega
    · simp only [Array.toList_append, List.append_assoc]
      rw [← List.append_assoc, ← hlen]
      exact List.take_left
  rcases hown with ⟨rfl, rfl⟩ | ⟨g, o, cap, rfl, hnc, hcm, pre, cur, hg, hpo, hcs, htake⟩
  · have hx : xs = [] := List.eq_nil_of_length_eq_zero (by simpa using hxl)
    subst hx
    have hm := hm rfl
    have hr := run_append_nil (P := P) w t ty e i z ht hi hz a m c news hl hnews (by omega) (by omega) (by have hb := hbytes; simp only [Nat.zero_add] at hb; omega)
    have hgr := grown 0 (by omega) (Value.ownBlock (.slice none 0 0))
    simp only [Nat.zero_add, List.nil_append, Array.empty_append] at hgr ⊢
    exact ⟨_, _, _, _, hr, hgr.1, hgr.2.1, hgr.2.2.1, hgr.2.2.2, Or.inr rfl⟩
  · by_cases hroom : n + m ≤ cap
    · have hk : n * i.size + news.length ≤ cur.length := by rw [hl, hcs, ← Nat.add_mul]; exact Nat.mul_le_mul_right _ hroom
      have hr := run_append_room_at (P := P) w t ty e i ht hi g o n cap (pre ++ cur).toArray hg a m c news hl hnews h1 hroom (by simp only [List.size_toArray, List.length_append]; omega)
      refine ⟨_, _, _, _, hr, ⟨pre, cur.take (n * i.size) ++ news ++ cur.drop (n * i.size + news.length), ?_, hpo, ?_, ?_⟩, hroom, hcm, ⟨rfl, rfl, rfl, by simp, fun k _ hk => setRow_other w g k _ (fun e => hk (by simp [Value.ownBlock, e]))⟩, Or.inl rfl⟩
      · rw [setRow_heap w g _ _ e _ hg]
        congr 3
        subst hpo
        simp only [List.toList_toArray]
        rw [List.take_length_add_append, Nat.add_assoc, List.drop_length_add_append]
        simp
      · simp only [List.length_append, List.length_take, List.length_drop]; omega
      · rw [htake, ← hlen]; exact List.take_left
    · have holds : ∀ j u, xs[j]? = some u → w.cell? ((⟨g, o, none⟩ : Addr).add j) = some u := fun j u hu => by
        rw [add_at]
        refine cells_at hg hpo ?_
        rw [← htake, List.getElem?_take] at hu
        split at hu
        · exact hu
        · cases hu
      have hr := run_append_grow (P := P) w t ty e i z ht hi hz ⟨g, o, none⟩ n cap xs hxl holds a m c news hl hnews (by omega) (by omega) (growslice_fits (by omega) hbytes)
      have hgr := grown cap (by omega) (Value.ownBlock (.slice (some ⟨g, o, none⟩) n cap))
      exact ⟨_, _, _, _, hr, hgr.1, hgr.2.1, hgr.2.2.1, hgr.2.2.2, Or.inr rfl⟩
theorem append_core (h : RelM bs ρ S w0 mem w) {g' o' cap' k s : Nat} {e : TypeId} {w' : World} {row : Option Nat} {ys : List Value} (hgr : w.grownBy w' row) (hat : row = some g' ∨ g' = w.heap.size)
    {mem' : List AObj} (hlen : mem'.length = mem.length) (hmem : ∀ (i : Nat) o, mem'[i]? = some o → mem[i]? = some o ∨ o = .dead)
    (hv : ∀ (i : Nat) o b, mem'[i]? = some o → Occ ρ o → bs[i]? = some b → row ≠ some b.blk) (hvS : ∀ g, row = some g → ¬ S g)
    (hown : OwnAt w' e s g' o' k cap' ys) (hyl : ys.length = k * s) (hk : k ≤ cap') (hcm : cap' ≤ maxLen) {pre : List AV} {ps rest : List Value} (hpre : dvl bs ρ pre = some ps) (hps : ys = ps ++ rest) {len : SE} (hlenE : (den ρ len).toNat = k) :
    ∃ b, dv (bs ++ [b]) ρ (.row mem.length 0 len 0) = some (.slice (some ⟨g', o', none⟩) k cap') ∧ RelM (bs ++ [b]) ρ S w0 (mem' ++ [.cells pre e true (some s)]) w' := by
  obtain ⟨pr, cur, hg, hpo, hcs, htake⟩ := hown
  refine ⟨⟨g', cap', o', none, 0⟩, ?_, ?_⟩
  · rw [dv_row_mk (b := ⟨g', cap', o', none, 0⟩) (by rw [← h.len, List.getElem?_append_right (Nat.le_refl _)]; simp) (by rw [hlenE]; omega)]
    simp only [Nat.sub_zero, Nat.add_zero, hlenE]
  · refine h.push ⟨g', cap', o', none, 0⟩ _ hlen hmem (fun i o e0 ho hlv he => ?_) ?_ ?_ ?_
    · have hlt : e0.blk < w.heap.size := by
        rcases hmem i o ho with h2 | rfl
        · obtain ⟨e', he', hr⟩ := h.rel i o h2
          rw [he] at he'; cases he'
          exact hr.lt hlv
        · exact hlv.elim
      have hne := hv i o e0 ho hlv he
      refine ⟨hgr.block _ hlt (fun e1 => hne e1.symm), ?_⟩
      rcases hat with h2 | h2
      · exact fun e1 => hne (by rw [h2, e1])
      · show e0.blk ≠ g'; omega
    · refine ⟨ps, rest ++ cur.drop (k * s), hpre, ⟨pr, ?_, hpo⟩, fun s' hs => ?_⟩
      · rw [← List.append_assoc ps, ← hps, ← htake, List.take_append_drop]; exact hg
      · cases hs
        rw [← List.append_assoc, ← hps, ← htake, List.take_append_drop]
        exact ⟨hcs, hcm⟩
    · rcases hat with h2 | h2
      · exact hvS g' h2
      · show ¬ S g'; rw [h2]; exact h.fresh
    · refine ⟨hgr.os.trans h.keep.os, hgr.tape.trans h.keep.tape, hgr.output.trans h.keep.output, Nat.le_trans h.keep.size hgr.size, fun b hb => ?_, h.keep.old⟩
      rw [hgr.block b (by have := h.keep.old b hb; have := h.keep.size; omega) (fun e1 => hvS b e1.symm hb)]
      exact h.keep.block b hb

/-- 'append' of known members to a row of one's own. -/
theorem append_sound (h : RelM bs ρ S w0 mem w) {t ty e : TypeId} {i : TypeInfo} {z : Value} (ht : P.underlying t = some (.slice e)) (hi : P.info? e = some i) (hz : i.zero = some z) (hzs : z.cells.size = i.size) (hsz : 0 < i.size)
    {v : Value} {n : Nat} {xs : List Value} {cc : List AV} {mem' : List AObj} (hxs : dvl bs ρ cc = some xs) (hxl : xs.length = n * i.size)
    (hown : (v = .slice none 0 0 ∧ n = 0) ∨ ∃ g o cap, v = .slice (some ⟨g, o, none⟩) n cap ∧ n ≤ cap ∧ cap ≤ maxLen ∧ OwnAt w e i.size g o n cap xs) (hlen : mem'.length = mem.length) (hmem : ∀ (i : Nat) o, mem'[i]? = some o → mem[i]? = some o ∨ o = .dead)
    (hv : ∀ (i : Nat) o b, mem'[i]? = some o → Occ ρ o → bs[i]? = some b → v.ownBlock ≠ some b.blk) (hvS : ∀ g, v.ownBlock = some g → ¬ S g)
    {b2 : Ent} {off2 : Nat} {m c : Nat} {news : List AV} {us : List Value} (hus : dvl bs ρ news = some us) (hl : us.length = m * i.size)
    (hcell : ∀ (j : Nat) u, us[j]? = some u → w.cell? ⟨b2.blk, off2 + j, none⟩ = some u) (h1 : news.all AV.one = true)
    (hm : 0 < m) (hb1 : n + m ≤ 100000) (hb2 : (n + m) * i.bytes ≤ 1000000) :
    ∃ b z w', dv (bs ++ [b]) ρ (.row mem.length 0 (.lit ((n + m : Nat) : Int)) 0) = some z ∧ RelM (bs ++ [b]) ρ S w0 (mem' ++ [.cells (cc ++ news) e true (some i.size)]) w' ∧
      (Builtin.append_ #[t, t] ty #[v, .slice (some ⟨b2.blk, off2, none⟩) m c]).run P w = .ok z w' := by
  obtain ⟨g', o', cap', w', hrun, hown', hk, hcm, hgr, hat⟩ := append_at (P := P) (ty := ty) ht hi hz hzs hsz hxl hown (a := ⟨b2.blk, off2, none⟩) (m := m) (c := c) hl
    (fun j u hu => by rw [add_at]; exact hcell j u hu) (ones_sound hus h1) (fun _ => hm) (by unfold maxLen; omega) (by omega)
  obtain ⟨b, hd, hR⟩ := append_core h hgr hat hlen hmem hv hvS hown' (by rw [List.length_append, hxl, hl, Nat.add_mul]) hk hcm (dvl_append hxs hus) (rest := []) (by simp) (len := .lit ((n + m : Nat) : Int)) (by simp only [den, Int.toNat_natCast])
  exact ⟨b, _, w', hd, hR, hrun⟩

theorem effA_sound {ev : Operand → Option AV} {e : Operand → Value} (hev : ∀ x a, ev x = some a → dv bs ρ a = some (e x)) (h : RelM bs ρ S w0 mem w)
    {o : Oper} {reqs : List SE} {r : AV} {mem' : List AObj} (he : effA P mem ev o.op = some (reqs, r, mem')) :
    ∃ ex z w', dv (bs ++ ex) ρ r = some z ∧ RelM (bs ++ ex) ρ S w0 mem' w' ∧ ((execOp e o).run P w = .ok (.value z) w' ∨ ((execOp e o).run P w = .ok .skip w' ∧ z = undef)) := by
  have val : ∀ (s : Sem Value) (z : Value) (w' : World), s.run P w = .ok z w' → ((do pure (.value (← s))) : Sem Next).run P w = .ok (.value z) w' := fun s z w' hs => by simp [hs]
  have newp : ∀ cap, dv (bs ++ [(⟨w.heap.size, cap, 0, none, 0⟩ : Ent)]) ρ (.ptr mem.length 0) = some (.pointer (some ⟨w.heap.size, 0, none⟩)) := fun cap => by
    simp only [dv]
    rw [← h.len, List.getElem?_append_right (Nat.le_refl _)]
    simp
  obtain ⟨dst, op, type, pos, after, guard⟩ := o
  simp only at he
  unfold effA at he
  split at he
  · rename_i t
    simp only [Option.map_eq_some_iff, Prod.mk.injEq] at he
    obtain ⟨za, hza, rfl, rfl, rfl⟩ := he
    obtain ⟨z, hz, hrz⟩ := zeroA_sound (bs := bs) (ρ := ρ) hza w
    have := h.alloc t none 0 (dv_cells hz) (fun s hs => by cases hs)
    simp only [Array.toArray_toList] at this
    refine ⟨_, _, _, newp 0, this, .inl (val _ _ _ ?_)⟩
    simp [Instr.alloc, hrz, newVar, newRow, newObj, Sem.run]
  · rename_i t x
    simp only [Option.map_eq_some_iff, Prod.mk.injEq] at he
    obtain ⟨a, ha, rfl, rfl, rfl⟩ := he
    have := h.alloc t none 0 (dv_cells (hev _ _ ha)) (fun s hs => by cases hs)
    simp only [Array.toArray_toList] at this
    refine ⟨_, _, _, newp 0, this, .inl (val _ _ _ ?_)⟩
    simp [Instr.box, newVar, newRow, newObj, Sem.run]
  · rename_i t len ps
    split at he
    · rename_i el hu
      simp only [Option.bind_eq_some_iff] at he
      obtain ⟨s, hs, za, hza, he⟩ := he
      split at he
      · cases he
      · rename_i hcond
        simp only [not_or] at hcond
        obtain ⟨hs0, hzl, hbig⟩ := hcond
        simp only [Option.bind_eq_some_iff, Option.map_eq_some_iff, Prod.mk.injEq] at he
        obtain ⟨l, hl, c, hc, rfl, rfl, rfl⟩ := he
        obtain ⟨z, hz, hrz⟩ := zeroA_sound (bs := bs) (ρ := ρ) hza w
        have hzc := dv_cells hz
        have hzlen := dvl_length hzc
        have hs' : z.cells.toList.length = s := by omega
        obtain ⟨h1, h2⟩ := partsA_sound hev hl
        obtain ⟨us, hus, hfill⟩ := fillA_sound _ l (ps.toList.map fun (i, x) => (i, e x)) _ c _ (dvl_zeros hzc len) (by simp [h1]) h2 hc
        have hulen : us.length = len * s := by
          have e1 : ∀ (place : Nat → Option (Nat × Nat)) (ps : List (Nat × AV)) (cells out : List AV), fillA place cells ps = some out → out.length = cells.length := by
            intro place ps
            induction ps with
            | nil => intro cells out h; cases h; rfl
            | cons p ps ih =>
              intro cells out h
              obtain ⟨i, v⟩ := p
              simp only [fillA] at h
              split at h
              · cases h
              · split at h
                · cases h
                · rename_i hle
                  simp only [Bool.or_eq_true, decide_eq_true_eq, not_or, ne_eq, Decidable.not_not] at hle
                  rw [ih _ _ h]
                  simp only [List.length_append, List.length_take, List.length_drop]
                  omega
          rw [dvl_length hus, e1 _ _ _ _ hc]
          have : za.cells.length = s := by omega
          rw [length_rep, this]
        have hpos : 0 < s := by omega
        have ha := h.alloc el (some s) len hus (fun s' hs' => by cases hs'; exact ⟨hulen, by
          have := Nat.le_mul_of_pos_right len hpos
          unfold maxLen; omega⟩)
        refine ⟨_, .slice (some ⟨w.heap.size, 0, none⟩) len len, _, ?_, ha, .inl (val _ _ _ ?_)⟩
        · rw [dv_row_mk (b := ⟨w.heap.size, len, 0, none, 0⟩) (by rw [← h.len, List.getElem?_append_right (Nat.le_refl _)]; simp) (by simp [den])]
          simp [den]
        · have hmap : (ps.map fun (i, x) => (i, e x)).toList = ps.toList.map fun (i, x) => (i, e x) := by simp
          have hz2 := zeros_eq z.cells.toList s len hs' hpos
          simp only [Array.toArray_toList] at hz2
          have hbig' : ¬ len * s > 2 ^ 24 := by omega
          simp only [Instr.buildSlice, Sem.run_bind, run_underlying hu, run_sizeA hs, Result.andThen_ok, hbig', if_false, Sem.run_pure, hmap]
          by_cases hl0 : len * s = 0
          · have hlen0 : len = 0 := by
              rcases Nat.mul_eq_zero.1 hl0 with h0 | h0
              · exact h0
              · omega
            subst hlen0
            simp only [List.range_zero, List.flatMap_nil] at hfill
            simp [show Array.range 0 = #[] from rfl, hfill, newRow, newObj, Sem.run]
          · simp only [hl0, if_false, Sem.run_bind, hrz, Result.andThen_ok, Sem.run_pure]
            rw [hz2, hfill]
            simp [newRow, newObj, Sem.run]
    · cases he
  · rename_i t n c
    split at he
    · rename_i el kn n kc c hu hn hc
      split at he
      · rename_i i hi
        simp only [Option.bind_eq_some_iff] at he
        obtain ⟨za, hza, he⟩ := he
        split at he
        · cases he
        · rename_i hcond
          simp only [not_or, ne_eq, Decidable.not_not, Int.not_lt, Nat.not_lt] at hcond
          obtain ⟨rfl, hn0, hn1, hs0, hzl, hby⟩ := hcond
          cases he
          obtain ⟨e1, _⟩ := dv_int (hev _ _ hn)
          obtain ⟨e2, _⟩ := dv_int (hev _ _ hc)
          obtain ⟨z, hz, hrz⟩ := zeroA_sound (bs := bs) (ρ := ρ) hza w
          have hzc := dv_cells hz
          have hzlen := dvl_length hzc
          have hs' : z.cells.toList.length = i.size := by omega
          have hpos : 0 < i.size := by omega
          have hrep := dvl_zeros hzc n.toNat
          have hulen : ((List.range n.toNat).flatMap fun _ => z.cells.toList).length = n.toNat * i.size := by rw [length_rep, hs']
          have ha := h.alloc el (some i.size) n.toNat hrep (fun s' hs' => by cases hs'; exact ⟨hulen, by unfold maxLen; omega⟩)
          refine ⟨_, .slice (some ⟨w.heap.size, 0, none⟩) n.toNat n.toNat, _, ?_, ha, .inl (val _ _ _ ?_)⟩
          · rw [dv_row_mk (b := ⟨w.heap.size, n.toNat, 0, none, 0⟩) (by rw [← h.len, List.getElem?_append_right (Nat.le_refl _)]; simp) (by simp [den])]
            simp [den]
          · have hz2 := zeros_eq z.cells.toList i.size n.toNat hs' hpos
            simp only [Array.toArray_toList] at hz2
            have hw : IntKind.i64.wrap n = n := by
              simp only [IntKind.wrap, IntKind.bits, IntKind.signed]
              simp
              omega
            have e3 : den ρ (.lit n) = n := rfl
            have hprod : (i.bytes : Int) * n ≤ 1000 * 100000 := Int.mul_le_mul (by omega) hn1 hn0 (by omega)
            have hroom : ¬ n.toNat * i.bytes > roomBytes := by
              have : ((n.toNat * i.bytes : Nat) : Int) = (i.bytes : Int) * n := by
                rw [Int.natCast_mul, Int.toNat_of_nonneg hn0, Int.mul_comm]
              have h2 : roomBytes = 140737488355328 := by decide
              omega
            have t1 : (decide (n < 0) || decide ((i.bytes : Int) * n > 2 ^ 48)) = false := by
              simp
              omega
            have t2 : ¬ ((decide (n < 0) || decide ((i.bytes : Int) * n > 2 ^ 48)) = true ∨ n < 0 ∨ n > n) := by
              rw [t1]
              simp
              omega
            rw [e1, e2, e3]
            simp only [Instr.makeSlice, Sem.run_bind, run_underlying hu, Result.andThen_ok, asInt, asIntOf, pure_bind, Sem.run_pure, typeInfo, hi, run_program, hw, t1]
            have t3 : (false || decide (n < 0) || decide (n > n)) = false := by simp; omega
            have hsz : sizeA P el = some i.size := by simp [sizeA, hi]
            rw [t3]
            simp only [Bool.false_eq_true, if_false, Sem.run_bind, askRoom, hroom, Sem.run_pure, Result.andThen_ok, run_sizeA hsz]
            by_cases hl0 : n.toNat * i.size = 0
            · have hlen0 : n.toNat = 0 := by
                rcases Nat.mul_eq_zero.1 hl0 with h0 | h0
                · exact h0
                · omega
              simp [hl0, hlen0, show Array.range 0 = #[] from rfl, newRow, newObj, Sem.run]
            · simp only [hl0, if_false, Sem.run_bind, hrz, Result.andThen_ok]
              rw [hz2]
              simp [newRow, newObj, Sem.run]
      · cases he
    · cases he
  · rename_i t a x
    simp only [Option.bind_eq_some_iff] at he
    obtain ⟨p, hp, v, hv, he⟩ := he
    split at he
    · rename_i id off
      split at he
      · rename_i c ty g hid
        split at he
        · rename_i hcond
          obtain ⟨hsz, hle, hone⟩ := hcond
          cases he
          have hp' := hev _ _ hp
          have hv' := hev _ _ hv
          simp only [dv, Option.map_eq_some_iff] at hp'
          obtain ⟨b, hb, hpe⟩ := hp'
          obtain ⟨b', hb', vs, tail, hvs, ⟨pre, hheap, hpre⟩, hg⟩ := h.rel id _ hid
          rw [hb] at hb'; cases hb'
          have hvc := dv_cells hv'
          have hvl := dvl_length hvc
          have hcl := dvl_length hvs
          have hnew := dvl_append (dvl_append (dvl_take hvs off) hvc) (dvl_drop hvs (off + v.cells.length))
          have hput := h.put hid hb hheap hpre hg hnew (by simp only [List.length_append, List.length_take, List.length_drop]; omega)
          refine ⟨[], undef, _, rfl, by rw [List.append_nil]; exact hput, .inr ⟨?_, rfl⟩⟩
          have hst := run_storeCells_at P b.blk (b.base + off) ty (e x).cells.toList 0 _ w hheap (by simp only [List.size_toArray, List.length_append]; omega) (ones_sound hvc hone)
          have hszr := run_sizeA (w := w) hsz
          have hcs : (e x).cells.size = v.cells.length := by simpa using hvl
          simp only [execOp, Instr.storeAt, ← hpe, Instr.sureAddr, pure_bind, storeVar, Sem.run_bind, hszr, Result.andThen_ok, hcs, ne_eq, not_true_eq_false, if_false, Nat.add_zero] at hst ⊢
          rw [hst]
          simp only [Result.andThen_ok, Sem.run_pure]
          congr 3
          have l1 : off ≤ vs.length := by omega
          have l2 : off + (e x).cells.size ≤ vs.length := by omega
          rw [← hcs, Array.length_toList, ← hpre]
          rw [List.take_length_add_append, Nat.add_assoc, List.drop_length_add_append]
          rw [List.take_append_of_le_length l1, List.drop_append_of_le_length l2]
          simp
        · cases he
      · cases he
    · cases he
  · rename_i c
    split at he
    · rename_i x y t t' hcal hargs htys
      split at he
      · cases he
      · rename_i htt
        simp only [ne_eq, Decidable.not_not] at htt
        subst htt
        split at he
        · rename_i el hu
          split at he
          · rename_i i hi
            simp only [Option.bind_eq_some_iff] at he
            obtain ⟨za, hza, a, ha, b, hb, he⟩ := he
            split at he
            · cases he
            · rename_i hcond
              simp only [not_or] at hcond
              obtain ⟨hs0, hzl⟩ := hcond
              have hza' := hza
              simp only [zeroA, hi, Option.bind_some, Option.bind_eq_some_iff] at hza'
              obtain ⟨z, hiz, hzof⟩ := hza'
              have hzc := dv_cells (ofV_sound (bs := bs) (ρ := ρ) hzof)
              have hzl2 := dvl_length hzc
              have hzs : z.cells.size = i.size := by simp at hzl2; omega
              split at he
              · rename_i id2 off2 m sk
                split at he
                · rename_i c2 ty2 own2 g2 hid2
                  simp only [Option.bind_eq_some_iff] at he
                  obtain ⟨news, hnews, he⟩ := he
                  simp only [takeC] at hnews
                  split at hnews
                  · rename_i hle2
                    cases hnews
                    split at he
                    · cases he
                    · rename_i hcond2
                      simp only [not_or, Int.not_le, Bool.not_eq_false] at hcond2
                      obtain ⟨hm0, hone⟩ := hcond2
                      have hb' := hev _ _ hb
                      obtain ⟨b2, hb2, _, hye⟩ := dv_row hb'
                      obtain ⟨b2', hb2', vs2, tail2, hvs2, ⟨pre2, hheap2, hpre2⟩, _⟩ := h.rel id2 _ hid2
                      rw [hb2] at hb2'; cases hb2'
                      have hlen2 := dvl_length hvs2
                      have hus := dvl_take (dvl_drop hvs2 off2) (m.toNat * i.size)
                      have hul : ((vs2.drop off2).take (m.toNat * i.size)).length = m.toNat * i.size := by simp; omega
                      have hcell : ∀ (j : Nat) u, ((vs2.drop off2).take (m.toNat * i.size))[j]? = some u → w.cell? ⟨b2.blk, b2.base + off2 + j, none⟩ = some u := fun j u hu => by
                        rw [Nat.add_assoc]
                        refine cells_at hheap2 hpre2 ?_
                        rw [List.getElem?_take] at hu
                        split at hu
                        · rw [List.getElem?_drop] at hu
                          rw [List.getElem?_append_left (List.getElem?_eq_some_iff.1 hu).1]
                          exact hu
                        · cases hu
                      have hargs' : c.args.map e = #[e x, e y] := by
                        have : c.args = #[x, y] := by cases hc : c.args; simp_all
                        simp [this]
                      have htys' : c.argTypes = #[t, t] := by cases hc : c.argTypes; simp_all
                      have fin : ∀ z w', (Builtin.append_ #[t, t] type #[e x, e y]).run P w = .ok z w' →
                          (execOp e { dst := dst, op := .call c, type := type, pos := pos, after := after, guard := guard }).run P w = .ok (.value z) w' := fun z w' hrun => by
                        simp only [execOp, resolve, hcal, pure_bind, invoke, builtin, hargs', htys', Sem.run_bind, hrun, Result.andThen_ok, Sem.run_pure]
                      have hden : (den ρ (.lit m)).toNat = m.toNat := rfl
                      rw [hden] at hye
                      split at he
                      · split at he
                        · rename_i hbd
                          cases he
                          have hx' := hev _ _ ha
                          simp only [dv, Option.some.injEq] at hx'
                          obtain ⟨bb, zz, w', hd, hR, hrun⟩ := append_sound (P := P) (ty := type) h hu hi hiz hzs (by omega) (v := .slice none 0 0) (n := 0) (xs := []) (cc := []) (mem' := mem) rfl (by simp)
                            (.inl ⟨rfl, rfl⟩) rfl (fun _ _ ho => .inl ho) (fun _ _ _ _ _ _ => by simp [Value.ownBlock]) (fun g hg => by simp [Value.ownBlock] at hg) (b2 := b2) (off2 := b2.base + off2) (m := m.toNat) (c := b2.cap - sk) hus hul hcell hone (by omega) (by omega) (by simpa using hbd.2)
                          refine ⟨[bb], zz, w', ?_, by simpa using hR, .inl (fin _ _ ?_)⟩
                          · rw [← hd]
                            have h9 : ((0 + m.toNat : Nat) : Int) = m := by omega
                            rw [h9]
                          · rw [← hx', ← hye]; exact hrun
                        · cases he
                      · rename_i id n
                        split at he
                        · rename_i cc ty s hid
                          split at he
                          · rename_i hbd
                            obtain ⟨rfl, rfl, hn0, hccl, hb3, hb4⟩ := hbd
                            cases he
                            have hx' := hev _ _ ha
                            obtain ⟨b1, hb1, _, hxe⟩ := dv_row hx'
                            obtain ⟨b1', hb1', vs1, tail1, hvs1, ⟨pre1, hheap1, hpre1⟩, hg1⟩ := h.rel id _ hid
                            rw [hb1] at hb1'; cases hb1'
                            rw [Nat.add_zero] at hxe
                            obtain ⟨hcap, hcm⟩ := hg1 _ rfl
                            have hl1 := dvl_length hvs1
                            have hnS := h.own id _ b1 hid rfl hb1
                            have hlt : id < mem.length := (List.getElem?_eq_some_iff.1 hid).1
                            have hncap : n.toNat ≤ b1.cap := by
                              have h5 : n.toNat * i.size ≤ b1.cap * i.size := by
                                rw [← hcap, List.length_append]; omega
                              exact Nat.le_of_mul_le_mul_right h5 (by omega)
                            have hget : ∀ {j : Nat} {o}, (mem.set id .dead)[j]? = some o → (j ≠ id ∧ mem[j]? = some o) ∨ o = .dead := fun {j o} ho => by
                              rw [List.getElem?_set] at ho
                              split at ho
                              · rename_i he; subst he; simp [hlt] at ho; exact .inr ho.symm
                              · rename_i he; exact .inl ⟨fun e => he e.symm, ho⟩
                            obtain ⟨bb, zz, w', hd, hR, hrun⟩ := append_sound (P := P) (ty := type) h hu hi hiz hzs (by omega) (v := .slice (some ⟨b1.blk, b1.base, none⟩) n.toNat b1.cap) (n := n.toNat) (xs := vs1) (cc := cc) (mem' := mem.set id .dead) hvs1 (by omega)
                              (.inr ⟨b1.blk, b1.base, b1.cap, rfl, hncap, hcm, pre1, vs1 ++ tail1, hheap1, hpre1, hcap, by rw [← hccl, ← hl1]; simp⟩)
                              (by simp) (fun j o ho => by
                                rcases hget ho with ⟨_, h6⟩ | h6
                                · exact .inl h6
                                · exact .inr h6)
                              (fun j o b0 ho hlv hbj => by
                                rcases hget ho with ⟨hne, h6⟩ | rfl
                                · intro h7
                                  have h8 : b1.blk = b0.blk := by simpa [Value.ownBlock] using h7
                                  exact h.apart id j _ o b1 b0 (Ne.symm hne) hid h6 rfl hlv hb1 hbj h8
                                · exact hlv.elim)
                              (fun g hg => by
                                have : b1.blk = g := by simpa [Value.ownBlock] using hg
                                rw [← this]; exact hnS)
                              (b2 := b2) (off2 := b2.base + off2) (m := m.toNat) (c := b2.cap - sk) hus hul hcell hone (by omega) hb3 hb4
                            refine ⟨[bb], zz, w', ?_, hR, .inl (fin _ _ ?_)⟩
                            · rw [← hd]
                              have h9 : ((n.toNat + m.toNat : Nat) : Int) = n + m := by omega
                              rw [h9]
                            · have hden2 : (den ρ (.lit n)).toNat = n.toNat := rfl
                              rw [hden2, Nat.sub_zero] at hxe
                              rw [← hxe, ← hye]; exact hrun
                          · cases he
                        · cases he
                      · cases he
                  · cases hnews
                · cases he
              · cases he
          · cases he
        · cases he
    · cases he
  · simp only [Option.map_eq_some_iff, Prod.mk.injEq] at he
    obtain ⟨⟨v, m⟩, he, rfl, rfl, rfl⟩ := he
    exact mapA_sound hev h (o := ⟨dst, _, type, pos, after, guard⟩) he

theorem run_append_none {t ty e : TypeId} {i : TypeInfo} (ht : P.underlying t = some (.slice e)) (hi : P.info? e = some i) (a : Addr) (n c : Nat) (hn : n ≤ c) (w : World) :
    (Builtin.append_ #[t, t] ty #[.slice (some a) n c, .slice none 0 0]).run P w = .ok (.slice (some a) n c) w := by
  have hs : sizeA P e = some i.size := by simp [sizeA, hi]
  simp [Builtin.append_, run_underlying ht, run_sizeA hs, Builtin.lenOf, Builtin.firstCells, hn, storeCells]

/-- 'append' of members that are there, to a row of one's own; of the members behind it some first ones are told. -/
theorem append_sound2 (h : RelM bs ρ S w0 mem w) {t ty e : TypeId} {i : TypeInfo} {z : Value} (ht : P.underlying t = some (.slice e)) (hi : P.info? e = some i) (hz : i.zero = some z) (hzs : z.cells.size = i.size) (hsz : 0 < i.size)
    {g0 o0 c0 n : Nat} {xs : List Value} {mem' : List AObj} (hxl : xs.length = n * i.size)
    (hown : OwnAt w e i.size g0 o0 n c0 xs) (hncap : n ≤ c0) (hcm0 : c0 ≤ maxLen) (hlen : mem'.length = mem.length) (hmem : ∀ (i : Nat) o, mem'[i]? = some o → mem[i]? = some o ∨ o = .dead)
    (hv : ∀ (i : Nat) o b, mem'[i]? = some o → Occ ρ o → bs[i]? = some b → g0 ≠ b.blk) (hvS : ¬ S g0)
    {y : Value} {m : Nat} {us : List Value} (hy : (∃ a c, y = .slice (some a) m c ∧ ∀ (j : Nat) u, us[j]? = some u → w.cell? (a.add j) = some u) ∨ (y = .slice none 0 0 ∧ m = 0)) (hl : us.length = m * i.size) (h1 : ∀ u ∈ us, u.oneCell' = true)
    (hb1 : n + m ≤ 100000) (hb2 : (n + m) * i.bytes ≤ 100000000)
    {pre : List AV} {ps rest : List Value} (hpre : dvl bs ρ pre = some ps) (hps : xs ++ us = ps ++ rest) {len : SE} (hlenE : (den ρ len).toNat = n + m) :
    ∃ b z w', dv (bs ++ [b]) ρ (.row mem.length 0 len 0) = some z ∧ RelM (bs ++ [b]) ρ S w0 (mem' ++ [.cells pre e true (some i.size)]) w' ∧
      (Builtin.append_ #[t, t] ty #[.slice (some ⟨g0, o0, none⟩) n c0, y]).run P w = .ok z w' := by
  obtain ⟨g', o', cap', w', hrun, hown', hk, hcm, hgr, hat⟩ : ∃ g' o' cap' w', (Builtin.append_ #[t, t] ty #[.slice (some ⟨g0, o0, none⟩) n c0, y]).run P w = .ok (.slice (some ⟨g', o', none⟩) (n + m) cap') w' ∧ OwnAt w' e i.size g' o' (n + m) cap' (xs ++ us) ∧
      n + m ≤ cap' ∧ cap' ≤ maxLen ∧ w.grownBy w' (some g0) ∧ (some g0 = some g' ∨ g' = w.heap.size) := by
    rcases hy with ⟨a, c, rfl, hcell⟩ | ⟨rfl, rfl⟩
    · exact append_at (P := P) (ty := ty) ht hi hz hzs hsz hxl (v := .slice (some ⟨g0, o0, none⟩) n c0) (.inr ⟨g0, o0, c0, rfl, hncap, hcm0, hown⟩) (a := a) (m := m) (c := c) hl hcell h1 (fun h0 => by cases h0) (by unfold maxLen; omega) (by omega)
    · have hu0 : us = [] := List.eq_nil_of_length_eq_zero (by simpa using hl)
      subst hu0
      exact ⟨_, _, _, w, run_append_none ht hi _ _ _ hncap w, by simpa using hown, hncap, hcm0, ⟨rfl, rfl, rfl, Nat.le_refl _, fun _ _ _ => rfl⟩, .inl rfl⟩
  obtain ⟨b, hd, hR⟩ := append_core h hgr hat hlen hmem (fun i o b ho hl hb h0 => hv i o b ho hl hb (Option.some.inj h0)) (fun g h0 => by cases h0; exact hvS) hown' (by rw [List.length_append, hxl, hl, Nat.add_mul]) hk hcm hpre hps hlenE
  exact ⟨b, _, w', hd, hR, hrun⟩

theorem appA_sound {ev : Operand → Option AV} {e : Operand → Value} (hev : ∀ x a, ev x = some a → dv bs ρ a = some (e x)) (h : RelM bs ρ S w0 mem w)
    {o : Oper} {p : Nat} {reqs : List SE} {r : AV} {mem' : List AObj} (he : appA P mem ev o.op p = some (reqs, r, mem')) (hr : ∀ c ∈ reqs, evB ρ c = true) :
    ∃ ex z w', dv (bs ++ ex) ρ r = some z ∧ RelM (bs ++ ex) ρ S w0 mem' w' ∧ (execOp e o).run P w = .ok (.value z) w' := by
  obtain ⟨dst, op, type, pos, after, guard⟩ := o
  simp only at he
  unfold appA at he
  split at he
  · rename_i c
    split at he
    · rename_i x y t t' hcal hargs htys
      split at he
      · cases he
      · rename_i htt
        have htt : t = t' := by simpa using htt
        subst htt
        split at he
        · rename_i el hu
          split at he
          · rename_i i hi
            simp only [Option.bind_eq_some_iff] at he
            obtain ⟨za, hza, a, ha, b, hb, he⟩ := he
            split at he
            · cases he
            · rename_i hcond
              simp only [not_or, ne_eq, Decidable.not_not, Nat.not_lt] at hcond
              obtain ⟨hs1, hzl, hby⟩ := hcond
              have hza' := hza
              simp only [zeroA, hi, Option.bind_some, Option.bind_eq_some_iff] at hza'
              obtain ⟨z, hiz, hzof⟩ := hza'
              have hzc := dv_cells (ofV_sound (bs := bs) (ρ := ρ) hzof)
              have hzl2 := dvl_length hzc
              have hzs : z.cells.size = i.size := by simp at hzl2; omega
              split at he
              · rename_i id n id2
                split at he
                · rename_i cc ty s m cap q ty2 hid hid2
                  split at he
                  · cases he
                  · rename_i hc2
                    simp only [not_or, ne_eq, Decidable.not_not] at hc2
                    obtain ⟨rfl, rfl⟩ := hc2
                    simp only [Option.some.injEq, Prod.mk.injEq] at he
                    obtain ⟨rfl, rfl, rfl⟩ := he
                    have r0 := hr (mkCmp .leq (.lit cc.length) n) (by simp)
                    have r1 := hr (mkCmp .leq n (.lit 10000)) (by simp)
                    have r2 := hr (mkCmp .leq m (.lit 10000)) (by simp)
                    have r3 := hr (mkCmp .leq (.lit p) m) (by simp)
                    rw [evB_mkCmp] at r0 r1 r2 r3
                    replace r0 : (cc.length : Int) ≤ den ρ n := of_decide_eq_true r0
                    replace r1 : den ρ n ≤ 10000 := of_decide_eq_true r1
                    replace r2 : den ρ m ≤ 10000 := of_decide_eq_true r2
                    replace r3 : (p : Int) ≤ den ρ m := of_decide_eq_true r3
                    obtain ⟨b1, hb1, hcap1, hxe⟩ := dv_row (hev _ _ ha)
                    obtain ⟨b1', hb1', vs1, tail1, hvs1, ⟨pre1, hheap1, hpre1⟩, hg1⟩ := h.rel id _ hid
                    rw [hb1] at hb1'; cases hb1'
                    rw [Nat.add_zero, Nat.sub_zero] at hxe
                    obtain ⟨hcap, hcm⟩ := hg1 _ rfl
                    rw [Nat.mul_one] at hcap
                    have hl1 := dvl_length hvs1
                    have hnS := h.own id _ b1 hid rfl hb1
                    have hlt : id < mem.length := (List.getElem?_eq_some_iff.1 hid).1
                    have hyd := hev _ _ hb
                    simp only [dv, Option.map_eq_some_iff] at hyd
                    obtain ⟨b2, hb2, hye⟩ := hyd
                    obtain ⟨b2', hb2', e1, e2, e3, e4, e5, e6⟩ := h.rel id2 _ hid2
                    rw [hb2] at hb2'; cases hb2'
                    have hget : ∀ {j : Nat} {o}, (mem.set id .dead)[j]? = some o → (j ≠ id ∧ mem[j]? = some o) ∨ o = .dead := fun {j o} ho => by
                      rw [List.getElem?_set] at ho
                      split at ho
                      · rename_i he; subst he; simp [hlt] at ho; exact .inr ho.symm
                      · rename_i he; exact .inl ⟨fun e => he e.symm, ho⟩
                    let us : List Value := (List.range b2.len).map fun (j : Nat) => colV ρ (j : Int) q
                    let xs : List Value := (vs1 ++ tail1).take (den ρ n).toNat
                    have hcl : ∀ j : Nat, j < b2.len → colOk ρ (j : Int) q = true := fun j hj => by
                      obtain ⟨_, _, h9⟩ := e6 (by omega)
                      exact (h9 j 0 q (by omega) rfl).2
                    have hy : (∃ a c, (e y) = .slice (some a) b2.len c ∧ ∀ (j : Nat) u, us[j]? = some u → w.cell? (a.add j) = some u) ∨ ((e y) = .slice none 0 0 ∧ b2.len = 0) := by
                      by_cases h0 : 0 < den ρ cap
                      · obtain ⟨e7, _, h9⟩ := e6 h0
                        refine .inl ⟨_, _, by rw [← hye, e7], fun j u hu => ?_⟩
                        simp only [us, List.getElem?_map, Option.map_eq_some_iff] at hu
                        obtain ⟨k, hk, rfl⟩ := hu
                        have hj : j < b2.len := by have := (List.getElem?_eq_some_iff.1 hk).1; simpa using this
                        rw [List.getElem?_range hj] at hk
                        cases hk
                        have := (h9 j 0 q (by omega) rfl).1
                        rw [add_at]
                        simpa using this
                      · have h1 : b2.len = 0 := by omega
                        have h2 : b2.cap = 0 := by omega
                        cases ha2 : b2.addr with
                        | none => exact .inr ⟨by rw [← hye, ha2, h1, h2], h1⟩
                        | some x => exact .inl ⟨x, b2.cap, by rw [← hye, ha2], fun j u hu => by simp [us, h1] at hu⟩
                    have hxl : xs.length = (den ρ n).toNat := by simp only [xs, List.length_take]; omega
                    have hprefix : ∃ ps rest, dvl bs ρ (if litIs n cc.length = true then cc ++ (List.range p).map fun (j : Nat) => colA (.lit (j : Int)) q else cc) = some ps ∧ xs ++ us = ps ++ rest := by
                      split
                      · rename_i hk
                        have hn : den ρ n = (cc.length : Int) := litIs_den hk
                        have hp2 : p ≤ b2.len := by omega
                        refine ⟨vs1 ++ us.take p, us.drop p, dvl_append hvs1 ?_, ?_⟩
                        · have key : ∀ k, k ≤ p → dvl bs ρ ((List.range k).map fun (j : Nat) => colA (.lit (j : Int)) q) = some ((List.range k).map fun (j : Nat) => colV ρ (j : Int) q) := by
                            intro k
                            induction k with
                            | zero => intro _; rfl
                            | succ k ih =>
                              intro hk
                              rw [List.range_succ, List.map_append, List.map_append]
                              refine dvl_append (ih (by omega)) ?_
                              have := dv_colA (bs := bs) (ρ := ρ) (i := .lit (k : Int)) (p := q) (hcl k (by omega))
                              simp only [List.map_cons, List.map_nil, dvl, this, Option.bind_some, Option.map_some]
                              rfl
                          rw [key p (Nat.le_refl _)]
                          congr 1
                          simp only [us, ← List.map_take, List.take_range, Nat.min_eq_left hp2]
                        · have hx : xs = vs1 := by
                            simp only [xs]
                            rw [hn, Int.toNat_natCast, ← hl1, List.take_left]
                          rw [hx, List.append_assoc, List.take_append_drop]
                      · refine ⟨vs1, xs.drop vs1.length ++ us, hvs1, ?_⟩
                        have hx : xs.take vs1.length = vs1 := by
                          simp only [xs, List.take_take]
                          rw [Nat.min_eq_left (by omega), List.take_left]
                        rw [← List.append_assoc]
                        congr 1
                        conv => lhs; rw [← List.take_append_drop vs1.length xs, hx]
                    obtain ⟨ps, rest, hpre, hps⟩ := hprefix
                    have hlenE : (den ρ (if beqS n (.lit 0) = true then m else mkBin .add .i64 n m)).toNat = (den ρ n).toNat + b2.len := by
                      split
                      · rename_i h0
                        have h0 := beqS_eq h0
                        rw [h0, e1]
                        show (den ρ m).toNat = (0 : Int).toNat + _
                        simp
                      · rw [den_mkBin]
                        show (IntKind.i64.wrap (den ρ n + den ρ m)).toNat = _
                        have : IntKind.i64.wrap (den ρ n + den ρ m) = den ρ n + den ρ m := by
                          simp only [IntKind.wrap, IntKind.bits, IntKind.signed]
                          simp
                          omega
                        rw [this, e1]
                        omega
                    have hbytes : ((den ρ n).toNat + b2.len) * i.bytes ≤ 100000000 := by
                      have h5 : (den ρ n).toNat + b2.len ≤ 20000 := by omega
                      have := Nat.mul_le_mul h5 hby
                      omega
                    have hone : ∀ u ∈ us, u.oneCell' = true := fun u hu => by
                      simp only [us, List.mem_map] at hu
                      obtain ⟨j, _, rfl⟩ := hu
                      cases q <;> first
                        | rfl
                        | (simp only [colV]; obtain ⟨_, _, hxv⟩ := xsV_slice _ _ _ _; rw [hxv]; rfl)
                    obtain ⟨bb, zz, w', hd, hR, hrun⟩ := append_sound2 (P := P) (ty := type) h hu hi hiz hzs (by omega) (g0 := b1.blk) (o0 := b1.base) (c0 := b1.cap) (n := (den ρ n).toNat) (xs := xs) (mem' := mem.set id .dead) (by rw [hs1, Nat.mul_one]; exact hxl)
                      ⟨pre1, vs1 ++ tail1, hheap1, hpre1, by rw [hs1, Nat.mul_one]; exact hcap, by simp only [hs1, Nat.mul_one, xs]⟩ (by omega) hcm
                      (by simp) (fun j o ho => by
                        rcases hget ho with ⟨_, h6⟩ | h6
                        · exact .inl h6
                        · exact .inr h6)
                      (fun j o b0 ho hlv hbj => by
                        rcases hget ho with ⟨hne, h6⟩ | rfl
                        · exact h.apart id j _ o b1 b0 (Ne.symm hne) hid h6 rfl hlv hb1 hbj
                        · exact hlv.elim) hnS hy (by simp [us, hs1]) hone (by omega) hbytes hpre hps hlenE
                    refine ⟨[bb], zz, w', hd, by rw [hs1] at hR; exact hR, ?_⟩
                    have hargs' : c.args.map e = #[e x, e y] := by
                      have : c.args = #[x, y] := by cases hc : c.args; simp_all
                      simp [this]
                    have htys' : c.argTypes = #[t, t] := by cases hc : c.argTypes; simp_all
                    rw [← hxe] at hargs'
                    simp only [execOp, resolve, hcal, pure_bind, invoke, builtin, hargs', htys', Sem.run_bind, hrun, Result.andThen_ok, Sem.run_pure]
                · cases he
              · cases he
          · cases he
        · cases he
    · cases he
  · cases he

end Go.SX

/- Symbolic execution of the model's code: 'append' at the end of a row; all that make or write memory. -/
namespace Go.SX
set_option linter.unusedSimpArgs false
set_option linter.unusedVariables false
variable {bs : List Ent} {ρ : Env} {P : Program} {w : World} {S : Nat → Prop} {w0 : World} {mem : List AObj}

theorem append_at0 {t ty e : TypeId} {i : TypeInfo} {z : Value} (ht : P.underlying t = some (.slice e)) (hi : P.info? e = some i) (hz : i.zero = some z) (hzs : z.cells.size = i.size) (hsz : 0 < i.size)
    {g o : Nat} {a : Addr} {m c : Nat} {news : List Value} (hl : news.length = m * i.size) (hnews : ∀ (j : Nat) u, news[j]? = some u → w.cell? (a.add j) = some u)
    (hm : 0 < m) (h63 : m ≤ maxLen) (hbytes : m * i.bytes ≤ 140737488355328) :
    ∃ g' o' cap' w', (Builtin.append_ #[t, t] ty #[.slice (some ⟨g, o, none⟩) 0 0, .slice (some a) m c]).run P w = .ok (.slice (some ⟨g', o', none⟩) m cap') w' ∧ OwnAt w' e i.size g' o' m cap' news ∧ m ≤ cap' ∧ cap' ≤ maxLen ∧
      w.grownBy w' (some g) ∧ g' = w.heap.size := by
  have hsmall : m ≤ 9223372036854775807 := by simp only [maxLen] at h63; omega
  have hr := run_append_grow (P := P) w t ty e i z ht hi hz ⟨g, o, none⟩ 0 0 [] (by simp) (fun j v h => by simp at h) a m c news hl hnews (by omega) (by omega) (growslice_fits (by omega) (by rw [Nat.zero_add]; exact hbytes))
  have hge := grownCap_ge w (0 + m) 0 e
  have hcm : grownCap w (0 + m) 0 e ≤ maxLen := grownCap_le_maxLen w (0 + m) 0 e (by omega)
  simp only [Nat.zero_add] at hr hge hcm
  refine ⟨_, _, _, _, hr, ⟨[], ((#[] : Array Value) ++ news.toArray ++ Builtin.zeroCells z.cells (grownCap w m 0 e - m)).toList, (by rw [List.nil_append, Array.toArray_toList]; exact heap_alloc_new w.drew _), rfl, ?_, ?_⟩, hge, hcm, ⟨rfl, rfl, rfl, by simp, fun k hk _ => heap_alloc_old w.drew _ k hk⟩, rfl⟩
  · simp only [Array.length_toList, Array.size_append, List.size_toArray, size_zeroCells, hzs, hl, List.length_nil, Nat.zero_add, Array.size_empty, ← Nat.add_mul]
    congr 1
    omega
  · simp only [Array.toList_append, List.nil_append]
    rw [← hl]
    exact List.take_left

theorem appE_sound {ev : Operand → Option AV} {e : Operand → Value} (hev : ∀ x a, ev x = some a → dv bs ρ a = some (e x)) (h : RelM bs ρ S w0 mem w)
    {o : Oper} {r : AV} {mem' : List AObj} (he : appE P mem ev o.op = some (r, mem')) :
    ∃ ex z w', dv (bs ++ ex) ρ r = some z ∧ RelM (bs ++ ex) ρ S w0 mem' w' ∧ (execOp e o).run P w = .ok (.value z) w' := by
  obtain ⟨dst, op, type, pos, after, guard⟩ := o
  simp only at he
  unfold appE at he
  split at he
  · rename_i c
    split at he
    · rename_i x y t t' hcal hargs htys
      split at he
      · cases he
      · rename_i htt
        have htt : t = t' := by simpa using htt
        subst htt
        split at he
        · rename_i el hu
          split at he
          · rename_i i hi
            simp only [Option.bind_eq_some_iff] at he
            obtain ⟨za, hza, a, ha, b, hb, he⟩ := he
            split at he
            · cases he
            · rename_i hcond
              simp only [not_or] at hcond
              obtain ⟨hs0, hzl⟩ := hcond
              have hza' := hza
              simp only [zeroA, hi, Option.bind_some, Option.bind_eq_some_iff] at hza'
              obtain ⟨z, hiz, hzof⟩ := hza'
              have hzc := dv_cells (ofV_sound (bs := bs) (ρ := ρ) hzof)
              have hzl2 := dvl_length hzc
              have hzs : z.cells.size = i.size := by simp at hzl2; omega
              split at he
              · rename_i id off0 off skip id2 off2 m sk
                split at he
                · rename_i cc ty s c2 ty2 own2 g2 hid hid2
                  simp only [Option.bind_eq_some_iff] at he
                  obtain ⟨news, hnews, he⟩ := he
                  simp only [takeC] at hnews
                  split at hnews
                  · rename_i hle2
                    cases hnews
                    split at he
                    · cases he
                    · rename_i hc2
                      simp only [not_or, ne_eq, Decidable.not_not, Int.not_le, Bool.not_eq_false, Nat.not_lt] at hc2
                      obtain ⟨_, rfl, rfl, hoff, hccl, hm0, hone, hmb, hmb2⟩ := hc2
                      simp only [Option.some.injEq, Prod.mk.injEq] at he
                      obtain ⟨rfl, rfl⟩ := he
                      obtain ⟨b2, hb2, _, hye⟩ := dv_row (hev _ _ hb)
                      obtain ⟨b2', hb2', vs2, tail2, hvs2, ⟨pre2, hheap2, hpre2⟩, _⟩ := h.rel id2 _ hid2
                      rw [hb2] at hb2'; cases hb2'
                      have hlen2 := dvl_length hvs2
                      have hus := dvl_take (dvl_drop hvs2 off2) (m.toNat * i.size)
                      have hul : ((vs2.drop off2).take (m.toNat * i.size)).length = m.toNat * i.size := by simp; omega
                      have hcell : ∀ (j : Nat) u, ((vs2.drop off2).take (m.toNat * i.size))[j]? = some u → w.cell? ((⟨b2.blk, b2.base + off2, none⟩ : Addr).add j) = some u := fun j u hu => by
                        rw [add_at, Nat.add_assoc]
                        refine cells_at hheap2 hpre2 ?_
                        rw [List.getElem?_take] at hu
                        split at hu
                        · rw [List.getElem?_drop] at hu
                          rw [List.getElem?_append_left (List.getElem?_eq_some_iff.1 hu).1]
                          exact hu
                        · cases hu
                      have hxe := hev _ _ ha
                      simp only [dv, Option.map_eq_some_iff] at hxe
                      obtain ⟨b1, hb1, hxe⟩ := hxe
                      obtain ⟨b1', hb1', vs1, tail1, hvs1, ⟨pre1, hheap1, hpre1⟩, hg1⟩ := h.rel id _ hid
                      rw [hb1] at hb1'; cases hb1'
                      obtain ⟨hcap, hcm⟩ := hg1 _ rfl
                      have hl1 := dvl_length hvs1
                      have hnS := h.own id _ b1 hid rfl hb1
                      have hlt : id < mem.length := (List.getElem?_eq_some_iff.1 hid).1
                      have hget : ∀ {j : Nat} {o}, (mem.set id .dead)[j]? = some o → (j ≠ id ∧ mem[j]? = some o) ∨ o = .dead := fun {j o} ho => by
                        rw [List.getElem?_set] at ho
                        split at ho
                        · rename_i he; subst he; simp [hlt] at ho; exact .inr ho.symm
                        · rename_i he; exact .inl ⟨fun e => he e.symm, ho⟩
                      have hmem : ∀ (j : Nat) o, (mem.set id AObj.dead)[j]? = some o → mem[j]? = some o ∨ o = .dead := fun j o ho => by
                        rcases hget ho with ⟨_, h6⟩ | h6
                        · exact .inl h6
                        · exact .inr h6
                      have hv : ∀ (j : Nat) o b, (mem.set id AObj.dead)[j]? = some o → Occ ρ o → bs[j]? = some b → some b1.blk ≠ some b.blk := fun j o b0 ho hlv hbj => by
                        rcases hget ho with ⟨hne, h6⟩ | rfl
                        · exact fun h7 => h.apart id j _ o b1 b0 (Ne.symm hne) hid h6 rfl hlv hb1 hbj (Option.some.inj h7)
                        · exact hlv.elim
                      have hvS : ∀ g, some b1.blk = some g → ¬ S g := fun g hg => by cases hg; exact hnS
                      have hden : (den ρ (.lit m)).toNat = m.toNat := rfl
                      rw [hden] at hye
                      obtain ⟨g', o', cap', w', hrun, hown', hk, hcm', hgr, hat⟩ : ∃ g' o' cap' w', (Builtin.append_ #[t, t] type #[e x, e y]).run P w = .ok (.slice (some ⟨g', o', none⟩) m.toNat cap') w' ∧
                          OwnAt w' ty i.size g' o' m.toNat cap' ((vs2.drop off2).take (m.toNat * i.size)) ∧ m.toNat ≤ cap' ∧ cap' ≤ maxLen ∧ w.grownBy w' (some b1.blk) ∧ (some b1.blk = some g' ∨ g' = w.heap.size) := by
                        by_cases hq : b1.cap = skip
                        · rw [if_pos hq] at hxe
                          obtain ⟨g', o', cap', w', r1, r2, r3, r4, r5, r6⟩ := append_at0 (P := P) (w := w) (ty := type) hu hi hiz hzs (by omega) (g := b1.blk) (o := b1.base + off0) (a := ⟨b2.blk, b2.base + off2, none⟩) (c := b2.cap - sk) hul hcell (by omega) (by unfold maxLen; omega) (by omega)
                          exact ⟨g', o', cap', w', by rw [← hxe, ← hye]; exact r1, r2, r3, r4, r5, .inr r6⟩
                        · rw [if_neg hq] at hxe
                          have hle : skip ≤ b1.cap := by
                            have h5 : skip * i.size ≤ b1.cap * i.size := by
                              rw [← hcap, List.length_append]; omega
                            exact Nat.le_of_mul_le_mul_right h5 (by omega)
                          have htl : tail1.length = (b1.cap - skip) * i.size := by
                            rw [List.length_append] at hcap
                            rw [Nat.sub_mul]
                            omega
                          obtain ⟨g', o', cap', w', r1, r2, r3, r4, r5, r6⟩ := append_at (P := P) (w := w) (ty := type) hu hi hiz hzs (by omega) (v := .slice (some ⟨b1.blk, b1.base + off, none⟩) 0 (b1.cap - skip)) (n := 0) (xs := []) (by simp)
                            (.inr ⟨b1.blk, b1.base + off, b1.cap - skip, rfl, by omega, by omega, pre1 ++ vs1, tail1, by rw [List.append_assoc]; exact hheap1, by rw [List.length_append]; omega, htl, by simp⟩)
                            (a := ⟨b2.blk, b2.base + off2, none⟩) (m := m.toNat) (c := b2.cap - sk) hul hcell (ones_sound hus hone) (fun h0 => by cases h0) (by unfold maxLen; omega) (by rw [Nat.zero_add]; omega)
                          simp only [Nat.zero_add, List.nil_append] at r1 r2 r3
                          exact ⟨g', o', cap', w', by rw [← hxe, ← hye]; exact r1, r2, r3, r4, r5, r6⟩
                      obtain ⟨bb, hd, hR⟩ := append_core h hgr hat (by simp) hmem hv hvS hown' hul hk hcm' hus (rest := []) (by simp) (len := .lit m) hden
                      refine ⟨[bb], _, w', hd, hR, ?_⟩
                      have hargs' : c.args.map e = #[e x, e y] := by
                        have : c.args = #[x, y] := by cases hc : c.args; simp_all
                        simp [this]
                      have htys' : c.argTypes = #[t, t] := by cases hc : c.argTypes; simp_all
                      simp only [execOp, resolve, hcal, pure_bind, invoke, builtin, hargs', htys', Sem.run_bind, hrun, Result.andThen_ok, Sem.run_pure]
                  · cases hnews
                · cases he
              · cases he
          · cases he
        · cases he
    · cases he
  · cases he

theorem effB_sound {ev : Operand → Option AV} {e : Operand → Value} (hev : ∀ x a, ev x = some a → dv bs ρ a = some (e x)) (h : RelM bs ρ S w0 mem w)
    {o : Oper} {reqs : List SE} {r : AV} {mem' : List AObj} (he : effB P mem ev o.op = some (reqs, r, mem')) :
    ∃ ex z w', dv (bs ++ ex) ρ r = some z ∧ RelM (bs ++ ex) ρ S w0 mem' w' ∧ ((execOp e o).run P w = .ok (.value z) w' ∨ ((execOp e o).run P w = .ok .skip w' ∧ z = undef)) := by
  unfold effB at he
  split at he
  · rename_i r0 h0
    cases he
    exact effA_sound hev h h0
  · simp only [Option.map_eq_some_iff, Prod.mk.injEq] at he
    obtain ⟨⟨v, m⟩, he, _, rfl, rfl⟩ := he
    obtain ⟨ex, z, w', h1, h2, h3⟩ := appE_sound hev h he
    exact ⟨ex, z, w', h1, h2, .inl h3⟩
end Go.SX

/- Symbolic execution of the model's code: what nobody names any more is left out; blocks told in another order. -/
namespace Go.SX
set_option linter.unusedSimpArgs false
set_option linter.unusedVariables false
variable {bs : List Ent} {ρ : Env} {P : Program} {w : World} {S : Nat → Prop} {w0 : World}

def findB (p : Nat) : List Nat → Nat → Option Nat
  | [], _ => none
  | j :: r, i => if j = p then some i else findB p r (i + 1)
theorem findB_some {p : Nat} : ∀ {b : List Nat} {i k : Nat}, findB p b i = some k → ∃ d, k = i + d ∧ b[d]? = some p
  | [], i, k, h => by cases h
  | j :: r, i, k, h => by
    simp only [findB] at h
    split at h
    · rename_i he; cases h; exact ⟨0, rfl, by simp [he]⟩
    · obtain ⟨d, h1, h2⟩ := findB_some h; exact ⟨d + 1, by omega, by simpa using h2⟩
theorem findB_none {p : Nat} : ∀ {b : List Nat} {i : Nat}, findB p b i = none → ∀ d : Nat, b[d]? ≠ some p
  | [], i, h, d => by simp
  | j :: r, i, h, d => by
    simp only [findB] at h
    split at h
    · cases h
    · rename_i he
      cases d with
      | zero => simpa using he
      | succ d => simpa using findB_none h d
def nodupB : List Nat → Bool
  | [] => true
  | j :: r => !r.contains j && nodupB r
theorem nodupB_spec : ∀ {b : List Nat}, nodupB b = true → ∀ (i j : Nat) p, b[i]? = some p → b[j]? = some p → i = j
  | [], _, i, j, p, h, _ => by simp at h
  | x :: r, h, i, j, p, hi, hj => by
    simp only [nodupB, Bool.and_eq_true, Bool.not_eq_true', List.contains_eq_mem, decide_eq_false_iff_not] at h
    cases i with
    | zero =>
      cases j with
      | zero => rfl
      | succ j => simp at hi hj; subst hi; exact absurd (List.mem_of_getElem? hj) h.1
    | succ i =>
      cases j with
      | zero => simp at hi hj; subst hj; exact absurd (List.mem_of_getElem? hi) h.1
      | succ j => rw [nodupB_spec h.2 i j p (by simpa using hi) (by simpa using hj)]

def beqM : List AObj → List AObj → Bool
  | [], [] => true
  | x :: l, y :: m => beqO x y && beqM l m
  | _, _ => false
theorem beqM_eq : ∀ {l m : List AObj}, beqM l m = true → l = m
  | [], [], _ => rfl
  | x :: l, y :: m, h => by
    simp only [beqM, Bool.and_eq_true] at h
    rw [beqO_eq h.1, beqM_eq h.2]
  | [], _ :: _, h => by cases h
  | _ :: _, [], h => by cases h
/-! ### what nobody names any more is left out -/
def AV.refs : AV → List Nat
  | .ptr id _ => [id]
  | .sptr id _ _ _ => [id]
  | .slice id _ _ _ => [id]
  | .arg id => [id]
  | .mapv id => [id]
  | .erow id _ _ _ => [id]
  | .row id _ _ _ => [id]
  | .fn _ c => c.refs
  | .fnx _ c => c.refs
  | .iface _ v => v.refs
  | .agg l => l.refs
  | .tuple l => l.refs
  | .cons a b => a.refs ++ b.refs
  | _ => []
def refsO : AObj → List Nat
  | .cells c _ _ _ => c.flatMap AV.refs
  | .mp _ vs => vs.flatMap AV.refs
  | .iter m => [m]
  | _ => []
def AV.ren (f : Nat → Nat) : AV → AV
  | .ptr id off => .ptr (f id) off
  | .sptr id i s o => .sptr (f id) i s o
  | .slice id o l c => .slice (f id) o l c
  | .arg id => .arg (f id)
  | .mapv id => .mapv (f id)
  | .erow id p o s => .erow (f id) p o s
  | .row id o l s => .row (f id) o l s
  | .fn g c => .fn g (c.ren f)
  | .fnx g c => .fnx g (c.ren f)
  | .iface t v => .iface t (v.ren f)
  | .agg l => .agg (l.ren f)
  | .tuple l => .tuple (l.ren f)
  | .cons a b => .cons (a.ren f) (b.ren f)
  | v => v
mutual
theorem dv_ren {bs bp : List Ent} (f : Nat → Nat) : ∀ a : AV, (∀ i ∈ a.refs, bp[f i]? = bs[i]?) → dv bp ρ (a.ren f) = dv bs ρ a
  | .ptr id off, h => by simp only [AV.ren, dv, h id (by simp [AV.refs])]
  | .sptr id i s o, h => by simp only [AV.ren, dv, h id (by simp [AV.refs])]
  | .slice id o l c, h => by simp only [AV.ren, dv, h id (by simp [AV.refs])]
  | .arg id, h => by simp only [AV.ren, dv, h id (by simp [AV.refs])]
  | .mapv id, h => by simp only [AV.ren, dv, h id (by simp [AV.refs])]
  | .erow id _ _ _, h => by simp only [AV.ren, dv, h id (by simp [AV.refs])]
  | .row id o l c, h => by simp only [AV.ren, dv, h id (by simp [AV.refs])]
  | .fn g c, h => by simp only [AV.ren, dv, dvs_ren f c h]
  | .fnx g c, h => by simp only [AV.ren, dv, dvs_ren f c h]
  | .iface t v, h => by simp only [AV.ren, dv, dv_ren f v h]
  | .agg l, h => by simp only [AV.ren, dv, dvs_ren f l h]
  | .tuple l, h => by simp only [AV.ren, dv, dvs_ren f l h]
  | .cons a b, _ => rfl
  | .int _ _, _ | .bool _, _ | .bstr _, _ | .xslice _ _ _ _, _ | .str _, _ | .nilptr, _ | .gptr _, _ | .nilslice, _ | .nilFunc, _ | .nilIface, _ | .nilmap, _ | .nil, _ => rfl
theorem dvs_ren {bs bp : List Ent} (f : Nat → Nat) : ∀ a : AV, (∀ i ∈ a.refs, bp[f i]? = bs[i]?) → dvs bp ρ (a.ren f) = dvs bs ρ a
  | .cons a b, h => by
    simp only [AV.refs, List.mem_append] at h
    simp only [AV.ren, dvs, dv_ren f a (fun i hi => h i (.inl hi)), dvs_ren f b (fun i hi => h i (.inr hi))]
  | .int _ _, _ | .bool _, _ | .bstr _, _ | .xslice _ _ _ _, _ | .str _, _ | .nilptr, _ | .gptr _, _ | .nilslice, _ | .nilFunc, _ | .nilIface, _ | .nilmap, _ | .erow _ _ _ _, _ | .nil, _
  | .ptr _ _, _ | .sptr _ _ _ _, _ | .slice _ _ _ _, _ | .arg _, _ | .mapv _, _ | .row _ _ _ _, _ | .fn _ _, _ | .fnx _ _, _ | .iface _ _, _ | .agg _, _ | .tuple _, _ => rfl
end
theorem dvl_ren {bs bp : List Ent} (f : Nat → Nat) : ∀ l : List AV, (∀ i ∈ l.flatMap AV.refs, bp[f i]? = bs[i]?) → dvl bp ρ (l.map (AV.ren f)) = dvl bs ρ l
  | [], _ => rfl
  | a :: l, h => by
    simp only [List.flatMap_cons, List.mem_append] at h
    simp only [List.map_cons, dvl, dv_ren f a (fun i hi => h i (.inl hi)), dvl_ren f l (fun i hi => h i (.inr hi))]
def AObj.ren (f : Nat → Nat) : AObj → AObj
  | .cells c ty own g => .cells (c.map (AV.ren f)) ty own g
  | .mp ks vs => .mp ks (vs.map (AV.ren f))
  | .iter m => .iter (f m)
  | o => o
def reach (mem : List AObj) : Nat → List Nat → List Nat → List Nat
  | 0, _, seen => seen
  | _ + 1, [], seen => seen
  | n + 1, i :: r, seen => if seen.contains i then reach mem n r seen else reach mem n (refsO (mem.getD i .dead) ++ r) (i :: seen)
def backI (ks : List Nat) (i : Nat) : Nat := (findB i ks 0).getD 0
def gcAt (ks : List Nat) (mem : List AObj) : List AObj := ks.map fun i => (mem.getD i .dead).ren (backI ks)
def gcOk (ks : List Nat) (mem : List AObj) (v : AV) (k : Nat) : Bool :=
  v.refs.all ks.contains && (ks.all fun i => Nat.blt i mem.length && (refsO (mem.getD i .dead)).all ks.contains) && nodupB ks && (ks.take k == List.range k)
theorem back_get {ks : List Nat} (i : Nat) (h : ks.contains i = true) : ks[backI ks i]? = some i := by
  unfold backI
  cases hf : findB i ks 0 with
  | none =>
    obtain ⟨d, hd⟩ := List.mem_iff_getElem?.1 (by simpa using h)
    exact absurd hd (findB_none hf d)
  | some j =>
    obtain ⟨d, h1, h2⟩ := findB_some hf
    rw [Nat.zero_add] at h1; subst h1
    exact h2
theorem gc_sound {k : Nat} {ks : List Nat} {v : AV} {mem : List AObj} {z : Value} (hg : gcOk ks mem v k = true) (hz : dv bs ρ v = some z) (hm : RelM bs ρ S w0 mem w) (bs0 : List Ent) (ex : List Ent) (hb : bs = bs0 ++ ex) (hk : bs0.length = k) :
    ∃ ex', dv (bs0 ++ ex') ρ (v.ren (backI ks)) = some z ∧ RelM (bs0 ++ ex') ρ S w0 (gcAt ks mem) w := by
  simp only [gcOk, Bool.and_eq_true, beq_iff_eq] at hg
  obtain ⟨⟨⟨h1, h2⟩, h3⟩, h4⟩ := hg
  have hnd := nodupB_spec h3
  have hlt : ∀ i ∈ ks, i < bs.length ∧ ∀ r ∈ refsO (mem.getD i .dead), ks.contains r = true := fun i hi => by
    have := List.all_eq_true.1 h2 i hi
    simp only [Bool.and_eq_true, Nat.blt_eq] at this
    exact ⟨by rw [hm.len]; exact this.1, fun r hr => List.all_eq_true.1 this.2 r hr⟩
  let bp : List Ent := ks.map fun i => bs.getD i ⟨0, 0, 0, none, 0⟩
  have hbp : ∀ j i, ks[j]? = some i → bp[j]? = bs[i]? := fun j i hj => by
    have := (hlt i (List.mem_of_getElem? hj)).1
    show (ks.map fun i => bs.getD i ⟨0, 0, 0, none, 0⟩)[j]? = _
    rw [List.getElem?_map, hj, Option.map_some, List.getD_eq_getElem?_getD, List.getElem?_eq_getElem this]
    rfl
  have hback : ∀ i, ks.contains i = true → bp[backI ks i]? = bs[i]? := fun i hi => hbp _ i (back_get i hi)
  have hbp0 : bp.take k = bs0 := by
    have : bp.take k = (ks.take k).map fun i => bs.getD i ⟨0, 0, 0, none, 0⟩ := by simp [bp, List.map_take]
    rw [this, h4]
    apply List.ext_getElem?
    intro i
    rw [List.getElem?_map]
    by_cases hi : i < k
    · rw [List.getElem?_range hi]
      simp only [Option.map_some]
      rw [hb, List.getD_eq_getElem?_getD, List.getElem?_append_left (by omega), List.getElem?_eq_getElem (by omega)]
      rfl
    · rw [List.getElem?_eq_none (by simp; omega), List.getElem?_eq_none (by omega)]
      rfl
  refine ⟨bp.drop k, ?_, ?_⟩
  · rw [← hbp0, List.take_append_drop, dv_ren (bs := bs) (backI ks) v (fun i hi => hback i (List.all_eq_true.1 h1 i hi))]
    exact hz
  · rw [← hbp0, List.take_append_drop]
    have get : ∀ (j : Nat) (o : AObj), (gcAt ks mem)[j]? = some o → ∃ i o', ks[j]? = some i ∧ mem[i]? = some o' ∧ o = o'.ren (backI ks) := fun j o ho => by
      simp only [gcAt, List.getElem?_map, Option.map_eq_some_iff] at ho
      obtain ⟨i, hi, rfl⟩ := ho
      have := (hlt i (List.mem_of_getElem? hi)).1
      rw [hm.len] at this
      exact ⟨i, mem[i], hi, List.getElem?_eq_getElem this, by rw [List.getD_eq_getElem?_getD, List.getElem?_eq_getElem this]; rfl⟩
    have mine : ∀ o : AObj, (o.ren (backI ks)).mine = o.mine := fun o => by cases o <;> rfl
    have occ : ∀ o : AObj, Occ ρ (o.ren (backI ks)) → Occ ρ o := fun o h => by cases o <;> exact h
    refine ⟨by simp [bp, gcAt], fun j o ho => ?_, fun j o b ho hmi hb => ?_, fun j j' o o' b b' hjj ho ho' hmi hoc hb hb' => ?_, hm.keep⟩
    · obtain ⟨i, o', hi, ho', rfl⟩ := get j o ho
      obtain ⟨b, hb, hr⟩ := hm.rel i o' ho'
      refine ⟨b, by rw [hbp j i hi]; exact hb, ?_⟩
      have hrefs := (hlt i (List.mem_of_getElem? hi)).2
      rw [List.getD_eq_getElem?_getD, ho', Option.getD_some] at hrefs
      cases o' with
      | cells c ty own g =>
        obtain ⟨vs, tail, e1, e2⟩ := hr
        exact ⟨vs, tail, by rw [dvl_ren (bs := bs) (backI ks) c (fun r hr => hback r (hrefs r hr))]; exact e1, e2⟩
      | sym n c row ty => exact hr
      | mp kk vs =>
        obtain ⟨us, es, clock, e1, e2⟩ := hr
        exact ⟨us, es, clock, by rw [dvl_ren (bs := bs) (backI ks) vs (fun r hr => hback r (hrefs r hr))]; exact e1, e2⟩
      | iter m =>
        obtain ⟨bm, since, e1, e2⟩ := hr
        exact ⟨bm, since, by rw [hback m (hrefs m (by simp [refsO]))]; exact e1, e2⟩
      | siter s p => exact hr
      | dead => trivial
    · obtain ⟨i, o', hi, ho', rfl⟩ := get j o ho
      exact hm.own i o' b ho' (by rw [← mine]; exact hmi) (by rw [← hbp j i hi]; exact hb)
    · obtain ⟨i, q, hi, hq, rfl⟩ := get j o ho
      obtain ⟨i', q', hi', hq', rfl⟩ := get j' o' ho'
      exact hm.apart i i' q q' b b' (fun e => hjj (by subst e; exact hnd j j' i hi hi')) hq hq' (by rw [← mine]; exact hmi) (occ _ hoc) (by rw [← hbp j i hi]; exact hb) (by rw [← hbp j' i' hi']; exact hb')

/-- The one end of a tree. -/
def Tree.one : Tree → Option (AV × List AObj)
  | .leaf v m => some (v, m)
  | .both a b => match a.one with
    | some (v, m) => match b.one with
      | some (v', m') => if (beqA v v' && beqM m m') = true then some (v, m) else none
      | none => none
    | none => none
  | _ => none
theorem one_holds {I : Nat → Env → Prop} {v : AV} {m : List AObj} : ∀ {t : Tree}, t.one = some (v, m) → t.holds I (fun _ v' m' => v' = v ∧ m' = m) ρ := by
  intro t
  induction t generalizing v m with
  | leaf v' m' => intro h; cases h; exact ⟨rfl, rfl⟩
  | both a b iha ihb =>
    intro h
    simp only [Tree.one] at h
    split at h
    · rename_i v1 m1 h1
      split at h
      · rename_i v2 m2 h2
        split at h
        · rename_i hc
          cases h
          simp only [Bool.and_eq_true] at hc
          obtain rfl := beqA_eq hc.1
          obtain rfl := beqM_eq hc.2
          exact ⟨iha h1, ihb h2⟩
        · cases h
      · cases h
    · cases h
  | _ => intro h; cases h

/-! ### a state that nothing is known of besides, in one fixed order -/
def allSome : List (Option AV) → Option (List AV)
  | [] => some []
  | some a :: r => match allSome r with
    | some l => some (a :: l)
    | none => none
  | none :: _ => none
theorem allSome_map : ∀ {sl : List (Option AV)} {l : List AV}, allSome sl = some l → sl = l.map some
  | [], _, h => by cases h; rfl
  | some a :: r, l, h => by
    simp only [allSome] at h
    split at h
    · rename_i l' hl; cases h; rw [allSome_map hl]; rfl
    · cases h
  | none :: _, _, h => by cases h
/-- A state as an end: its slots, its blocks in the order in which the slots name them (the first k stay). -/
def endA (k : Nat) (st : ASt) : Tree := match st.pc, allSome st.slots with
  | [], some l =>
    let v := AV.tuple (ofList l)
    let ks := List.range k ++ (reach st.mem 100000 (v.refs ++ (st.mem.take k).flatMap refsO) []).reverse.filter fun i => !(Nat.blt i k)
    if gcOk ks st.mem v k = true then .leaf (v.ren (backI ks)) (gcAt ks st.mem) else .fail 30
  | _, _ => .fail 31
def decoS : Option (AV × List AObj) → Option ASt
  | some (.tuple l, m) => some { slots := l.members.map some, mem := m, pc := [] }
  | _ => none
def beqSl : List (Option AV) → List (Option AV) → Bool
  | [], [] => true
  | some a :: l, some b :: m => beqA a b && beqSl l m
  | none :: l, none :: m => beqSl l m
  | _, _ => false
theorem beqSl_eq : ∀ {l m : List (Option AV)}, beqSl l m = true → l = m
  | [], [], _ => rfl
  | some a :: l, some b :: m, h => by
    simp only [beqSl, Bool.and_eq_true] at h
    rw [beqA_eq h.1, beqSl_eq h.2]
  | none :: l, none :: m, h => by
    simp only [beqSl] at h
    rw [beqSl_eq h]
  | [], _ :: _, h => by simp [beqSl] at h
  | some _ :: _, [], h => by simp [beqSl] at h
  | none :: _, [], h => by simp [beqSl] at h
  | some _ :: _, none :: _, h => by simp [beqSl] at h
  | none :: _, some _ :: _, h => by simp [beqSl] at h
def beqBs : List Bool → List Bool → Bool
  | [], [] => true
  | a :: l, b :: m => (match a, b with
    | true, true => true
    | false, false => true
    | _, _ => false) && beqBs l m
  | _, _ => false
theorem beqBs_eq : ∀ {l m : List Bool}, beqBs l m = true → l = m
  | [], [], _ => rfl
  | a :: l, b :: m, h => by
    simp only [beqBs, Bool.and_eq_true] at h
    rw [beqBs_eq h.2]
    cases a <;> cases b <;> first | rfl | (cases h.1)
  | [], _ :: _, h => by cases h
  | _ :: _, [], h => by cases h
end Go.SX

/- A region that draws its order: an operation may be taken first under one of two conditions on the world: one that every operation keeps, or one that is kept by all but those that wait for it. After the kit's own printed words (wpAnyLast), with the second condition beside. -/
namespace Go.SX
open Go.Proofs.YtnmmomopnaglbaaGreatDoorW.PrintLast
set_option linter.unusedVariables false
section
variable {P : Program} {ops : Array Oper} {Q : Exit → Act → World → Prop} {S T : World → Prop} {ds : List Nat}

def wpTwo (P : Program) (ops : Array Oper) (Q : Exit → Act → World → Prop) (S T : World → Prop) (ds : List Nat) : Nat → Array Bool → Act → World → Prop
  | 0, listed, a, w => Region.ready .any ops listed = [] ∧ Q .normal a w
  | fuel + 1, listed, a, w =>
    (Region.ready .any ops listed = [] → Q .normal a w) ∧
    ∀ i ∈ Region.ready .any ops listed, wpOp P ops Q i (fun a' w' => ((i ∉ ds → S w → S w') ∧ (T w → T w')) ∧ wpTwo P ops Q S T ds fuel (listed.setIfInBounds i true) a' w') a w

theorem wpAny_of_two : ∀ (fuel : Nat) (listed : Array Bool) (a : Act) (w : World), wpTwo P ops Q S T ds fuel listed a w → wpAny P .any ops Q fuel listed a w
  | 0, _, _, _, h => h
  | fuel + 1, _, _, _, h => ⟨h.1, fun i hi => wpOp_mono (fun a' w' h' => wpAny_of_two fuel _ a' w' h'.2) (h.2 i hi)⟩

/-- 'U': what the operation needs of the world; 'hU': who comes up before it keeps U. -/
theorem wpTwo_first {i : Nat} {oi : Oper} {v : Value} (hi : ops[i]? = some oi) (hsel : ∀ (j : Nat) (o : Oper) cs b, ops[j]? = some o → o.op ≠ .select cs b)
    (hQ : ∀ c a w, Q (.panic c) (a.put oi.dst v) w → Q (.panic c) a w) (U : World → Prop) (G : Array Bool → Prop)
    (hU : ∀ (j : Nat) (listed : Array Bool) (w w' : World), G listed → i ∈ Region.ready .any ops listed → j ∈ Region.ready .any ops listed → ((j ∉ ds → S w → S w') ∧ (T w → T w')) → U w → U w')
    (hG : ∀ (j : Nat) (listed : Array Bool), G listed → j ∈ Region.ready .any ops listed → G (listed.setIfInBounds j true)) :
    ∀ (fuel : Nat) (listed : Array Bool) (a : Act) (w : World),
      (∀ j oj, ops[j]? = some oj → j ≠ i → listed.getD j true = false → (∀ e ∈ oj.after, Region.binds .any e = true → e.on ≠ i) → oi.apart ops oj = true) →
      G listed → i ∈ Region.ready .any ops listed → YieldsIf P ops U oi v a → U w →
      wpTwo P ops Q S T ds fuel (listed.setIfInBounds i true) (a.put oi.dst v) w → wpTwo P ops Q S T ds (fuel + 1) listed a w := by
  intro fuel
  induction fuel with
  | zero =>
    intro listed a w _ _ hr hy hS H
    refine ⟨fun h => (by rw [h] at hr; cases hr), fun j hj => ?_⟩
    by_cases hji : j = i
    · subst hji; exact hy.wpOp hi hS ⟨⟨fun _ h => h, fun h => h⟩, H⟩
    · have := ready_mono hj hji
      rw [H.1] at this
      cases this
  | succ fuel ih =>
    intro listed a w hfree hg hr hy hS H
    refine ⟨fun h => (by rw [h] at hr; cases hr), fun j hj => ?_⟩
    by_cases hji : j = i
    · subst hji; exact hy.wpOp hi hS ⟨⟨fun _ h => h, fun h => h⟩, H⟩
    · have h1 := H.2 j (ready_mono hj hji)
      obtain ⟨hjun, oj, hoj, hall⟩ := mem_ready.1 hj
      have hiun := (mem_ready.1 hr).1
      have hnot : ∀ e ∈ oj.after, Region.binds .any e = true → e.on ≠ i := fun e he hb heq => by
        have h1 := hall e he hb
        rw [heq] at h1
        rcases Nat.lt_or_ge i listed.size with h' | h'
        · simp [h'] at hiun h1; rw [hiun] at h1; cases h1
        · simp [Array.getElem?_eq_none h'] at h1
      have h2 := wpOp_putIf hoj (hfree j oj hoj hji hjun hnot) (fun cs b => hsel i oi cs b hi) (fun cs b => hsel j oj cs b hoj) hQ hy h1
      have hfree' : ∀ k ok, ops[k]? = some ok → k ≠ i → (listed.setIfInBounds j true).getD k true = false →
          (∀ e ∈ ok.after, Region.binds .any e = true → e.on ≠ i) → oi.apart ops ok = true := fun k ok hk hki hun hno => by
        refine hfree k ok hk hki ?_ hno
        by_cases hjk : j = k
        · subst hjk; exact hjun
        · rw [getD_set_ne true hjk] at hun; exact hun
      refine wpOp_mono (fun a' w' h3 => ⟨h3.2.1, ih (listed.setIfInBounds j true) a' w' hfree' (hG j listed hg hj) (ready_mono hr (Ne.symm hji)) h3.1 (hU j listed w w' hg hr hj h3.2.1 hS) ?_⟩) h2
      rw [Array.setIfInBounds_comm _ _ hji]
      exact h3.2.2

/-- It yields in every world that meets T: taken first wherever it may come up. -/
theorem wpTwo_any {i : Nat} {N : Option Tmp} {oi : Oper} {v : Value} {fuel : Nat} {l l' : Array Bool} {a : Act} {w : World} (hi : ops[i]? = some oi) (hN : oi.dst = N) (hc : anyB .any ops l l' i = true)
    (hQ : ∀ c a w, Q (.panic c) (a.put oi.dst v) w → Q (.panic c) a w) (hy : YieldsIf P ops T oi v a) (hT : T w)
    (h : wpTwo P ops Q S T ds fuel l' (a.put N v) w) : wpTwo P ops Q S T ds (fuel + 1) l a w := by
  subst hN
  simp only [anyB, Bool.and_eq_true, beq_iff_eq] at hc
  obtain ⟨⟨⟨h1, h2⟩, h3⟩, h6⟩ := hc
  subst h6
  exact wpTwo_first hi (Region.noSelect_spec h1) hQ T (fun _ => True) (fun j l w w' _ _ _ hh => hh.2) (fun _ _ _ _ => trivial) fuel l a w (Region.free_spec hi h2) trivial (by simpa using h3) hy hT h

/-- For each operation, who may not come up beside it: told once a region. -/
def confTbl (ops : Array Oper) : List (List Nat) := (List.range ops.size).map fun i => (List.range ops.size).filter fun j => !(j == i || (match ops[i]?, ops[j]? with
  | some oi, some oj => oj.after.any (fun e => Region.binds .any e && e.on == i) || oi.apart ops oj
  | _, _ => true))
def allListed (listed : Array Bool) : List Nat → Bool
  | [] => true
  | j :: r => listed.getD j true && allListed listed r
def fastB (ops : Array Oper) (listed : Array Bool) (i : Nat) : Bool := Region.noSelect ops && (match (confTbl ops)[i]? with
  | some l => allListed listed l
  | none => false)
theorem allListed_spec {listed : Array Bool} : ∀ {l : List Nat}, allListed listed l = true → ∀ j ∈ l, listed.getD j true = true
  | [], _, j, hj => by cases hj
  | k :: r, h, j, hj => by
    simp only [allListed, Bool.and_eq_true] at h
    rcases List.mem_cons.1 hj with rfl | hj
    · exact h.1
    · exact allListed_spec h.2 j hj
theorem fast_free {listed : Array Bool} {i : Nat} (h : fastB ops listed i = true) : Region.noSelect ops = true ∧ Region.free .any ops listed i = true := by
  simp only [fastB, Bool.and_eq_true] at h
  obtain ⟨h1, h2⟩ := h
  refine ⟨h1, ?_⟩
  split at h2
  · rename_i l hl
    simp only [confTbl, List.getElem?_map, Option.map_eq_some_iff] at hl
    obtain ⟨k, hk, rfl⟩ := hl
    have hi : i < ops.size := by have := (List.getElem?_eq_some_iff.1 hk).1; simpa using this
    rw [List.getElem?_range hi] at hk
    cases hk
    have hoi : ops[i]? = some ops[i] := Array.getElem?_eq_getElem hi
    simp only [Region.free, hoi, List.all_eq_true, List.mem_range]
    intro j hj
    have hoj : ops[j]? = some ops[j] := Array.getElem?_eq_getElem hj
    simp only [hoj]
    by_cases hc : (j == i || (ops[j].after.any (fun e => Region.binds .any e && e.on == i) || ops[i].apart ops ops[j])) = true
    · simp only [Bool.or_eq_true] at hc ⊢
      rcases hc with hc | hc
      · exact .inl (.inl hc)
      · exact .inr hc
    · have hm : j ∈ (List.range ops.size).filter fun j => !(j == i || (match ops[i]?, ops[j]? with
          | some oi, some oj => oj.after.any (fun e => Region.binds .any e && e.on == i) || oi.apart ops oj
          | _, _ => true)) := by
        rw [List.mem_filter]
        refine ⟨List.mem_range.2 hj, ?_⟩
        simp only [hoi, hoj]
        simpa using hc
      have := allListed_spec h2 j hm
      rw [this]
      simp
  · cases h2
theorem wpTwo_fast {i : Nat} {oi : Oper} {v : Value} {fuel : Nat} {l : Array Bool} {a : Act} {w : World} (hi : ops[i]? = some oi) (hc : fastB ops l i = true) (hr : i ∈ Region.ready .any ops l)
    (hQ : ∀ c a w, Q (.panic c) (a.put oi.dst v) w → Q (.panic c) a w) (hy : YieldsIf P ops T oi v a) (hT : T w)
    (h : wpTwo P ops Q S T ds fuel (l.setIfInBounds i true) (a.put oi.dst v) w) : wpTwo P ops Q S T ds (fuel + 1) l a w := by
  obtain ⟨h1, h2⟩ := fast_free hc
  exact wpTwo_first hi (Region.noSelect_spec h1) hQ T (fun _ => True) (fun j l w w' _ _ _ hh => hh.2) (fun _ _ _ _ => trivial) fuel l a w (Region.free_spec hi h2) trivial hr hy hT h

/-- It yields in every world that meets S, and each of ds waits for it. -/
theorem wpTwo_take {i : Nat} {N : Option Tmp} {oi : Oper} {v : Value} {fuel : Nat} {l l' : Array Bool} {a : Act} {w : World} (hi : ops[i]? = some oi) (hN : oi.dst = N) (hc : takeB .any ops ds l l' i = true)
    (hQ : ∀ c a w, Q (.panic c) (a.put oi.dst v) w → Q (.panic c) a w) (hy : YieldsIf P ops S oi v a) (hS : S w)
    (h : wpTwo P ops Q S T ds fuel l' (a.put N v) w) : wpTwo P ops Q S T ds (fuel + 1) l a w := by
  subst hN
  simp only [takeB, Bool.and_eq_true, beq_iff_eq] at hc
  obtain ⟨⟨⟨⟨⟨h1, h2⟩, h3⟩, h4⟩, h5⟩, h6⟩ := hc
  subst h6
  refine wpTwo_first hi (Region.noSelect_spec h1) hQ S (fun l => ListedClosed .any ops l ∧ ∀ d ∈ ds, l.getD d true = false → Region.reachB .any ops i ops.size d = true)
    (fun j l w w' hg hr hj hh hs => hh.1 (fun hm => ?_) hs) (fun j l hg hj => ⟨hg.1.set hj, fun d hm hun => ?_⟩) fuel l a w (Region.free_spec hi h2) ⟨Region.closedB_spec h4, fun d hm hun => ?_⟩ (by simpa using h3) hy hS h
  · have hjun := (mem_ready.1 hj).1
    exact Region.reach_not_ready hg.1 (hg.2 j hm hjun) (mem_ready.1 hr).1 hj
  · refine hg.2 d hm ?_
    by_cases hjk : j = d
    · subst hjk; exact (mem_ready.1 hj).1
    · rw [getD_set_ne true hjk] at hun; exact hun
  · have := List.all_eq_true.1 h5 d hm
    rw [hun] at this
    simpa using this

theorem wp_region_two {id : Nat} {a : Act} {w : World} (hm : P.follows .mixedOrders = true)
    (h : wpTwo P ops Q S T ds ops.size (Array.replicate ops.size false) a { w with drawn := w.drawn + 1 }) : (Code.region id ops true).wp P Q a w :=
  wp_region_any hm (wpAny_of_two _ _ _ _ h)
end
end Go.SX

/- Symbolic execution of the model's code, part 8: the executor. -/
namespace Go.SX
open Go.Proofs.YtnmmomopnaglbaaGreatDoorW.PrintLast

inductive AExit where
  | normal
  | exit (id : Nat)
  | ret
  deriving DecidableEq

def AExit.conc : AExit → Exit
  | .normal => .normal
  | .exit id => .exit id
  | .ret => .ret

inductive Task where
  | code (c : Code)
  | rounds (c : Code)
  | ops (ops : Array Oper) (l : List Nat)
  | draw (ops : Array Oper) (ds : List Nat) (m0 m1 : List AObj) (kS : Bool) (listed : Array Bool) (n : Nat)
  | oper (ops : Array Oper) (i : Nat)

/-- A loop that is not unrolled: the first region of its body; what its head holds in place of what it is met with (nothing is known; or a value with letters of its own); the measure. -/
structure LoopSpec where
  key : Nat
  slots : List (Nat × Option AV)
  cells : List (Nat × Nat × AV)
  meas : SE
  facts : List (SE × Bool) := []

/-- What a call comes to. -/
inductive Out where
  | ite (c : SE) (a b : Out)
  | need (c : SE) (a : Out)
  | done (v : AV) (mem : List AObj)
  | fail (n : Nat)
  deriving Inhabited

structure Cfg where
  /-- the functions that may be entered -/
  ok : List FuncId
  /-- the functions that are known by a contract: what a call comes to, of its arguments and the memory -/
  sums : FuncId → List AV → List AObj → Option Out
  loops : List LoopSpec
  /-- blocks that a region's calls write (a guess, too) -/
  hints : List (Nat × List Nat) := []
  /-- a region's calls that write (a guess, too) -/
  writers : List (Nat × List Nat) := []
  /-- how many members are told of a row that 'append' copies (a guess, too) -/
  pre : List Nat := [48]
  /-- from how many operations on a region that draws is told by a table -/
  tbl : Nat := 1000000
  /-- which arguments' blocks a function writes (a guess, too) -/
  wr : FuncId → List Nat := fun _ => []
  /-- regions that draw, and loops, whose ends are known -/
  holes : Code → ASt → Option (AExit × ASt) := fun _ _ => none
def hintOf (id : Nat) : List (Nat × List Nat) → List Nat
  | [] => []
  | (i, l) :: r => if i = id then l else hintOf id r

def updS (slots : List (Option AV)) (dst : Option Tmp) (v : AV) : List (Option AV) :=
  match dst with
  | some d => slots.set d (some v)
  | none => slots
def ASt.put (st : ASt) (dst : Option Tmp) (v : AV) : ASt := { st with slots := updS st.slots dst v }

/-- A comparison with a number, as a bound: (true: from below). -/
def bndT (c : SE) : Option (SE × Bool × Int) :=
  match c with
  | .cmp .leq (.lit x) e => some (e, true, x)
  | .cmp .lss (.lit x) e => some (e, true, x + 1)
  | .cmp .leq e (.lit x) => some (e, false, x)
  | .cmp .lss e (.lit x) => some (e, false, x - 1)
  | _ => none
def bndF (c : SE) : Option (SE × Bool × Int) :=
  match c with
  | .cmp .leq (.lit x) e => some (e, false, x - 1)
  | .cmp .lss (.lit x) e => some (e, false, x)
  | .cmp .leq e (.lit x) => some (e, true, x + 1)
  | .cmp .lss e (.lit x) => some (e, true, x)
  | _ => none
theorem bndT_iff {ρ : Env} {c e : SE} {lo : Bool} {x : Int} (h : bndT c = some (e, lo, x)) : evB ρ c = true ↔ (if lo = true then x ≤ den ρ e else den ρ e ≤ x) := by
  have h0 : ∀ b : Bool, (ofB b != 0) = b := fun b => by cases b <;> rfl
  unfold bndT at h
  split at h <;> first | (cases h; done) | skip
  all_goals (
    cases h
    simp only [evB, den, h0, cmpI, if_true, Bool.false_eq_true, if_false])
  all_goals exact ⟨fun h => by have := of_decide_eq_true h; omega, fun h => decide_eq_true (by omega)⟩
theorem bndF_iff {ρ : Env} {c e : SE} {lo : Bool} {x : Int} (h : bndF c = some (e, lo, x)) : evB ρ c = false ↔ (if lo = true then x ≤ den ρ e else den ρ e ≤ x) := by
  have h0 : ∀ b : Bool, (ofB b != 0) = b := fun b => by cases b <;> rfl
  unfold bndF at h
  split at h <;> first | (cases h; done) | skip
  all_goals (
    cases h
    simp only [evB, den, h0, cmpI, if_true, Bool.false_eq_true, if_false])
  all_goals exact ⟨fun h => by have := of_decide_eq_false h; omega, fun h => decide_eq_false (by omega)⟩
/-- What one truth says of another comparison. -/
def impB (d : SE) (b : Bool) (c : SE) : Option Bool :=
  match (if b then bndT d else bndF d), bndT c with
  | some (e, lo, x), some (e', lo', y) =>
    if beqS e e' = true then
      match lo, lo' with
      | true, true => if y ≤ x then some true else none
      | true, false => if y < x then some false else none
      | false, true => if x < y then some false else none
      | false, false => if x ≤ y then some true else none
    else none
  | _, _ => none

/-- An expression that is known to be a number. -/
def eqT (d : SE) (b : Bool) : Option (SE × Int) :=
  match d, b with
  | .cmp .eql e (.lit x), true => some (e, x)
  | .cmp .neq e (.lit x), false => some (e, x)
  | _, _ => none
def impE (d : SE) (b : Bool) (c : SE) : Option Bool :=
  match eqT d b with
  | some (e, x) => match c with
    | .cmp op a (.lit y) => if beqS a e = true then some (cmpI op x y) else none
    | .cmp op (.lit y) a => if beqS a e = true then some (cmpI op y x) else none
    | _ => none
  | none => none
theorem impE_sound {ρ : Env} {d c : SE} {b t : Bool} (h : evB ρ d = b) (hi : impE d b c = some t) : evB ρ c = t := by
  have h0 : ∀ b : Bool, (ofB b != 0) = b := fun b => by cases b <;> rfl
  unfold impE at hi
  split at hi
  · rename_i e x he
    have hx : den ρ e = x := by
      unfold eqT at he
      split at he
      · cases he; simp only [evB, den, h0, cmpI] at h; simpa using h
      · cases he; simp only [evB, den, h0, cmpI] at h; simpa using h
      · cases he
    split at hi
    · split at hi
      · rename_i hb; cases hi; rw [beqS_eq hb]; simp only [evB, den, h0, hx]
      · cases hi
    · split at hi
      · rename_i hb; cases hi; rw [beqS_eq hb]; simp only [evB, den, h0, hx]
      · cases hi
    · cases hi
  · cases hi

def findPc (c : SE) : List (SE × Bool) → Option Bool
  | [] => none
  | (d, b) :: r => if beqS d c = true then some b else if beqS d (mkNot c) = true then some (!b) else match impB d b c with
    | some t => some t
    | none => match impE d b c with
      | some t => some t
      | none => findPc c r

/-- Both ways, or the one that is known. -/
def mkIte (c : SE) (st : ASt) (k : ASt → Bool → Tree) : Tree :=
  match c with
  | .lit n => k st (n != 0)
  | c => match findPc c st.pc with
    | some b => k st b
    | none => .ite c (k { st with pc := (c, true) :: st.pc } true) (k { st with pc := (c, false) :: st.pc } false)

def mkNeeds : List SE → ASt → (ASt → Tree) → Tree
  | [], st, k => k st
  | c :: r, st, k => match c with
    | .lit n => if n = 0 then .fail 1 else mkNeeds r st k
    | c => match findPc c st.pc with
      | some true => mkNeeds r st k
      | some false => .fail 2
      | none => .need c (mkNeeds r { st with pc := (c, true) :: st.pc } k)

def knownAll (pc : List (SE × Bool)) : List SE → Bool
  | [] => true
  | .lit n :: r => n != 0 && knownAll pc r
  | c :: r => (match findPc c pc with
    | some b => b
    | none => false) && knownAll pc r
def pickP (P : Program) (mem : List AObj) (ev : Operand → Option AV) (op : Op) (pc : List (SE × Bool)) : List Nat → Nat
  | [] => 0
  | p :: r => match appA P mem ev op p with
    | some (reqs, _, _) => if knownAll pc reqs = true then p else pickP P mem ev op pc r
    | none => 0
/-- A contract's ways. -/
def outRun : Out → ASt → (AV → List AObj → ASt → Tree) → Tree
  | .ite c a b, st, k => mkIte c st fun st' t => match t with
    | true => outRun a st' k
    | false => outRun b st' k
  | .need c a, st, k => mkNeeds [c] st fun st' => outRun a st' k
  | .done v mem, st, k => k v mem st
  | .fail n, _, _ => .fail n
def Out.pick (ρ : Env) : Out → Option (AV × List AObj)
  | .ite c a b => if evB ρ c = true then a.pick ρ else b.pick ρ
  | .need c a => if evB ρ c = true then a.pick ρ else none
  | .done v mem => some (v, mem)
  | .fail _ => none

inductive GuardR where
  | yes | no | sym (d : Nat) (e : SE) | bad

/-- What is picked hangs on a truth that is not decided. -/
def pickA (slots : List (Option AV)) (o : Oper) : GuardR :=
  match o.op with
  | .pick (.tmp d) _ _ => match slots[d]? with
    | some (some (.bool (.lit _))) => .yes
    | some (some (.bool e)) => .sym d e
    | _ => .yes
  | _ => .yes

def guardA (ops : Array Oper) (slots : List (Option AV)) (o : Oper) : GuardR :=
  match o.guard with
  | none => pickA slots o
  | some (j, want) => match (ops[j]?).bind (·.dst) with
    | none => .bad
    | some d => match slots[d]? with
      | some (some (.bool (.lit n))) => if (n != 0) = want then pickA slots o else .no
      | some (some (.bool e)) => .sym d e
      | some (some (.tuple .nil)) => .no
      | _ => .bad

/-- A member whose number is not known, of a row whose length is: each number by itself. -/
def splitI (P : Program) (slots : List (Option AV)) (op : Op) : Option (Nat × IntKind × SE × Nat) :=
  let pin (d m : Nat) : Option (Nat × IntKind × SE × Nat) := match slots[d]? with
    | some (some (.int k ix)) => match ix with
      | .lit _ => none
      | _ => if m ≤ 20 then some (d, k, ix, m) else none
    | _ => none
  match op with
  | .indexAddr t x (.tmp d) => match opd slots x with
    | some (.row _ _ (.lit m) _) => pin d m.toNat
    | some (.ptr _ _) => match P.underlying t with
      | some (.array m _) => pin d m
      | _ => none
    | _ => none
  | .index t _ (.tmp d) => match P.underlying t with
    | some (.array m _) => pin d m
    | _ => none
  | _ => none
def splitRun (ix : SE) : List Nat → ASt → (ASt → Nat → Tree) → Tree
  | [], _, _ => .fail 23
  | j :: r, st, f => mkIte (mkCmp .eql ix (.lit j)) st fun st' b => match b with
    | true => f st' j
    | false => splitRun ix r st' f

/-- The function that a call enters, and its arguments. -/
def methA (P : Program) (t : TypeId) (name : String) : Option FuncId :=
  match P.info? t with
  | some i => match i.methods.find? (·.name == name) with
    | some m => match m.path.toList, m.func, P.underlying t with
      | [], some (_, false), some (.pointer _) => none
      | [], some (f, false), some _ => some f
      | _, _, _ => none
    | none => none
  | none => none
def callA (P : Program) (ev : Operand → Option AV) (op : Op) : Option (FuncId × List AV) :=
  match op with
  | .call c => match c.callee with
    | .value f => match ev f with
      | some (.fn g cap) => (evs ev c.args.toList).map fun l => (g, l ++ cap.members)
      | some (.fnx (.func g) first) => (evs ev c.args.toList).map fun l => (g, first.members ++ l)
      | _ => none
    | .invoke r name => match ev r with
      | some (.iface t v) => (methA P t name).bind fun f => (evs ev c.args.toList).map fun l => (f, v :: l)
      | _ => none
    | _ => none
  | _ => none

def resA (P : Program) (mem : List AObj) (slots : List (Option AV)) : List ResultVar → Option (List AV)
  | [] => some []
  | .tmp t :: r => match slots[t]? with
    | some (some v) => (resA P mem slots r).map fun l => v :: l
    | _ => none
  | .cell a t :: r => match slots[a]? with
    | some (some (.ptr id off)) => match loadA P mem t (.ptr id off) with
      | some ([], v) => (resA P mem slots r).map fun l => v :: l
      | _ => none
    | _ => none

def resultA (P : Program) (fn : Func) (st : ASt) : Option AV :=
  (resA P st.mem st.slots fn.results.toList).map fun
    | [v] => v
    | l => .tuple (ofList l)

def writesO (wr : FuncId → List Nat) (o : Oper) : Bool := match o.op with
  | .store .. | .mapUpdate .. | .insert .. | .next .. => true
  | .call c => match c.callee with
    | .builtin .append => true
    | .value (.func f) => match wr f with
      | [] => false
      | _ => true
    | _ => false
  | _ => false
def callsW (wr : FuncId → List Nat) (o : Oper) : Bool := match o.op with
  | .call _ => writesO wr o
  | _ => false
def makesO (o : Oper) : Bool := match o.op with
  | .alloc _ | .box .. | .buildSlice .. | .makeSlice .. | .makeMap .. | .range .. | .load .. => true
  | .call c => match c.callee with
    | .builtin _ => false
    | _ => true
  | _ => false
/-- The operations that may write (a guess); where a call does, those that make blocks, too. -/
def storesOf (wr : FuncId → List Nat) (ops : Array Oper) : List Nat :=
  let w := ops.toList.any (callsW wr)
  (List.range ops.size).filter fun i => match ops[i]? with
    | some o => writesO wr o || (w && makesO o)
    | none => false

def Code.key : Code → Option Nat
  | .region id _ _ => some id
  | .seq a b => match Code.key a with
    | some k => some k
    | none => Code.key b
  | .block _ c => Code.key c
  | .loop c => Code.key c
  | .scope c => Code.key c
  | .cond _ a b => match Code.key a with
    | some k => some k
    | none => Code.key b
  | _ => none

/-! substitution -/
mutual
def SE.sub (θ : List (Nat × SE)) : SE → SE
  | .var i => subV θ i
  | .bin op k a b => .bin op k (a.sub θ) (b.sub θ)
  | .conv k a => .conv k (a.sub θ)
  | .cmp op a b => .cmp op (a.sub θ) (b.sub θ)
  | .not a => .not (a.sub θ)
  | .and a b => .and (a.sub θ) (b.sub θ)
  | .mx a b => .mx (a.sub θ) (b.sub θ)
  | .mn a b => .mn (a.sub θ) (b.sub θ)
  | .app f a => .app f (a.subL θ)
  | .cons _ _ => .lit 0
  | .lit n => .lit n
  | .nil => .lit 0
def SE.subL (θ : List (Nat × SE)) : SE → SE
  | .cons a b => .cons (a.sub θ) (b.subL θ)
  | _ => .nil
end
def AV.sub (θ : List (Nat × SE)) : AV → AV
  | .int k e => .int k (e.sub θ)
  | .bool e => .bool (e.sub θ)
  | .sptr id i s o => .sptr id (i.sub θ) s o
  | .slice id o n c => .slice id o (n.sub θ) (c.sub θ)
  | .row id o n s => .row id o (n.sub θ) s
  | .bstr l => .bstr (l.subL θ)
  | .fn f c => .fn f (c.sub θ)
  | .fnx f c => .fnx f (c.sub θ)
  | .iface t v => .iface t (v.sub θ)
  | .xslice b o n c => .xslice (b.sub θ) (o.sub θ) (n.sub θ) (c.sub θ)
  | .agg l => .agg (l.sub θ)
  | .tuple l => .tuple (l.sub θ)
  | .cons a b => .cons (a.sub θ) (b.sub θ)
  | v => v

/-- Does it name blocks below n alone? -/
def AV.lowB (n : Nat) : AV → Bool
  | .ptr id _ | .sptr id _ _ _ | .slice id _ _ _ | .arg id | .mapv id | .erow id _ _ _ | .row id _ _ _ => id < n
  | .fn _ c => c.lowB n
  | .fnx _ c => c.lowB n
  | .iface _ v => v.lowB n
  | .agg l => l.lowB n
  | .tuple l => l.lowB n
  | .cons a b => a.lowB n && b.lowB n
  | _ => true

def subObj (θ : List (Nat × SE)) : AObj → AObj
  | .cells c ty own g => .cells (c.map (AV.sub θ)) ty own g
  | .sym n cap row ty => .sym (n.sub θ) (cap.sub θ) row ty
  | .mp ks vs => .mp ks (vs.map (AV.sub θ))
  | .iter m => .iter m
  | .siter s p => .siter s p
  | .dead => .dead
def belowObj (n : Nat) : AObj → Bool
  | .cells c _ _ _ => c.all (AV.lowB n)
  | .mp _ vs => vs.all (AV.lowB n)
  | .iter m => decide (m < n)
  | _ => true

/-- The head's state: what the loop is met with, turned as its row says. -/
def setSlots (slots : List (Option AV)) : List (Nat × Option AV) → List (Option AV)
  | [] => slots
  | (i, v) :: r => setSlots (slots.set i v) r
def setCells (mem : List AObj) : List (Nat × Nat × AV) → List AObj
  | [] => mem
  | (id, j, v) :: r => setCells (match mem[id]? with
    | some (.cells c ty own g) => mem.set id (.cells (c.set j v) ty own g)
    | _ => mem) r
def headOf (sp : LoopSpec) (st : ASt) : ASt := { slots := setSlots st.slots sp.slots, mem := setCells st.mem sp.cells, pc := sp.facts }

/-- What the letters of a head stand for in a state. -/
def bindAV (pat v : AV) : List (Nat × SE) :=
  match pat, v with
  | .int _ (.var p), .int _ e => [(p, e)]
  | .bool (.var p), .bool e => [(p, e)]
  | .slice _ _ (.var p) _, .slice _ _ e _ => [(p, e)]
  | _, _ => []
def bindSlots (slots : List (Option AV)) : List (Nat × Option AV) → List (Nat × SE)
  | [] => []
  | (i, some pat) :: r => match slots[i]? with
    | some (some v) => bindAV pat v ++ bindSlots slots r
    | _ => bindSlots slots r
  | (_, none) :: r => bindSlots slots r
def bindCells (mem : List AObj) : List (Nat × Nat × AV) → List (Nat × SE)
  | [] => []
  | (id, j, pat) :: r => match mem[id]? with
    | some (.cells c _ _ _) => match c[j]? with
      | some v => bindAV pat v ++ bindCells mem r
      | none => bindCells mem r
    | _ => bindCells mem r

def fitSlots (θ : List (Nat × SE)) (n : Nat) : List (Option AV) → List (Option AV) → Bool
  | [], [] => true
  | none :: r, _ :: s => fitSlots θ n r s
  | some p :: r, some v :: s => beqA (p.sub θ) v && p.lowB n && fitSlots θ n r s
  | _, _ => false
def fitMem (θ : List (Nat × SE)) (n : Nat) : List AObj → List AObj → Bool
  | [], _ => true
  | p :: r, o :: s => beqO (subObj θ p) o && belowObj n p && fitMem θ n r s
  | _, _ => false
def fit (θ : List (Nat × SE)) (h st : ASt) : Bool := fitSlots θ h.mem.length h.slots st.slots && fitMem θ h.mem.length h.mem st.mem

def bindAll (sp : LoopSpec) (st : ASt) : List (Nat × SE) :=
  let θ := bindSlots st.slots sp.slots ++ bindCells st.mem sp.cells
  (1000 + sp.key, sp.meas.sub θ) :: θ

/-- Letters of a head are below 1000; the measure's is the first row. -/
def lowKeys : List (Nat × SE) → Bool
  | [] => false
  | _ :: r => r.all fun p => p.1 < 1000

/-- The head's facts, of what its letters stand for, one after the other. -/
def mkFacts (θ : List (Nat × SE)) (k : Tree) : List (SE × Bool) → Tree
  | [] => k
  | (c, true) :: r => .need (c.sub θ) (mkFacts θ k r)
  | (c, false) :: r => .need (.not (c.sub θ)) (mkFacts θ k r)

def findLoop (key : Nat) : List LoopSpec → Option LoopSpec
  | [] => none
  | sp :: r => if sp.key = key then some sp else findLoop key r

/-- An operation that may be taken first, with its value and what must hold. -/
inductive Early where
  | no
  | take (i : Nat) (dst : Option Tmp) (reqs : List SE) (v : AV) (listed : Array Bool)
  | split (d : Nat) (e : SE)

/-- Of 'm1' (some of it struck) nothing has turned. -/
def keptM : List AObj → List AObj → Bool
  | [], _ => true
  | .dead :: r, _ :: s => keptM r s
  | o :: r, p :: s => beqO o p && keptM r s
  | _ :: _, [] => false

def tryEarly (P : Program) (st : ASt) (ops : Array Oper) (ds : List Nat) (m0 m1 : List AObj) (kS : Bool) (listed : Array Bool) (i : Nat) : Early :=
  match ops[i]? with
  | none => .no
  | some o => match guardA ops st.slots o with
    | .bad => .no
    | .sym d e => .split d e
    | .no => if fastB ops listed i then .take i o.dst [] (.tuple .nil) (listed.setIfInBounds i true) else .no
    | .yes => match pureA P m1 (opd st.slots) o.op with
      | some (reqs, v) => if fastB ops listed i then .take i o.dst reqs v (listed.setIfInBounds i true) else .no
      | none => if kS = true then match pureA P m0 (opd st.slots) o.op with
          | some (reqs, v) => if takeB .any ops ds listed (listed.setIfInBounds i true) i then .take i o.dst reqs v (listed.setIfInBounds i true) else .no
          | none => .no
        else .no
def findEarly (P : Program) (st : ASt) (ops : Array Oper) (ds : List Nat) (m0 m1 : List AObj) (kS : Bool) (listed : Array Bool) : List Nat → Early
  | [] => .no
  | i :: r => match tryEarly P st ops ds m0 m1 kS listed i with
    | .no => findEarly P st ops ds m0 m1 kS listed r
    | e => e

/-- Which blocks a region writes to, as far as a look in the text's order tells (a guess: nothing hangs on it). -/
def guessS (wr : FuncId → List Nat) (P : Program) (mem : List AObj) : List Oper → List (Option AV) → List Nat
  | [], _ => []
  | o :: r, slots =>
    let here : List Nat := match o.op with
      | .store _ a _ => match opd slots a with
        | some (.ptr id _) => [id]
        | _ => []
      | .mapUpdate _ m _ _ | .insert _ m _ _ => match opd slots m with
        | some (.mapv id) => [id]
        | _ => []
      | .next x _ => match opd slots x with
        | some (.ptr id _) => [id]
        | _ => []
      | .call c => match c.callee, c.args.toList with
        | .builtin .append, x :: _ => match opd slots x with
          | some (.row id _ _ _) => [id]
          | some (.erow id _ _ _) => [id]
          | _ => []
        | .value (.func f), xs => (wr f).flatMap fun i => match xs[i]? with
          | some x => match opd slots x with
            | some v => reach mem 200 v.refs []
            | none => []
          | none => []
        | _, _ => []
      | _ => []
    let v : Option AV := match pureA P mem (opd slots) o.op with
      | some (_, v) => some v
      | none => none
    here ++ guessS wr P mem r (match o.dst with
      | some d => slots.set d v
      | none => slots)
def strike (mem : List AObj) (ids : List Nat) : List AObj := match ids with
  | [] => mem
  | _ => mem.zipIdx.map fun (o, i) => if ids.contains i then .dead else o

def allOf (f : Nat → Tree) : List Nat → Tree
  | [] => .fail 3
  | [i] => f i
  | i :: r => .both (f i) (allOf f r)

def boolOf : Option AV → Option SE
  | some (.bool e) => some e
  | _ => none

theorem boolOf_some {x : Option AV} {e : SE} (h : boolOf x = some e) : x = some (.bool e) := by
  unfold boolOf at h
  split at h
  · cases h; rfl
  · cases h

/-! The lists of a state, told whole before one goes on (that a look into them need not go through every change again). -/
def forceL {α : Type} : List α → (List α → Tree) → Tree
  | [], k => k []
  | a :: l, k => forceL l fun l' => k (a :: l')
theorem forceL_eq {α : Type} : ∀ (l : List α) (k : List α → Tree), forceL l k = k l
  | [], k => rfl
  | a :: l, k => by simp only [forceL, forceL_eq l]
def forceO (o : AObj) (k : AObj → Tree) : Tree := match o with
  | .cells c ty own g => forceL c fun c' => k (.cells c' ty own g)
  | o => k o
theorem forceO_eq (o : AObj) (k : AObj → Tree) : forceO o k = k o := by
  unfold forceO
  split
  · rw [forceL_eq]
  · rfl
def forceM : List AObj → (List AObj → Tree) → Tree
  | [], k => k []
  | o :: l, k => forceO o fun o' => forceM l fun l' => k (o' :: l')
theorem forceM_eq : ∀ (l : List AObj) (k : List AObj → Tree), forceM l k = k l
  | [], k => rfl
  | o :: l, k => by simp only [forceM, forceO_eq, forceM_eq l]
def forceS (st : ASt) (k : ASt → Tree) : Tree := forceL st.slots fun sl => forceM st.mem fun m => k { slots := sl, mem := m, pc := st.pc }
theorem forceS_eq (st : ASt) (k : ASt → Tree) : forceS st k = k st := by
  unfold forceS
  rw [forceL_eq, forceM_eq]

/-! A value told whole (that what hangs on it need not be reckoned again and again). -/
section
variable {β : Type}
def forceN (n : Nat) (k : Nat → β) : β := match n with
  | 0 => k 0
  | m + 1 => k (m + 1)
theorem forceN_eq (n : Nat) (k : Nat → β) : forceN n k = k n := by cases n <;> rfl
def forceZ (n : Int) (k : Int → β) : β := match n with
  | .ofNat m => forceN m fun m' => k (.ofNat m')
  | .negSucc m => forceN m fun m' => k (.negSucc m')
theorem forceZ_eq (n : Int) (k : Int → β) : forceZ n k = k n := by cases n <;> simp only [forceZ, forceN_eq]
def forceE (e : SE) (k : SE → β) : β := match e with
  | .lit n => forceZ n fun n' => k (.lit n')
  | e => k e
theorem forceE_eq (e : SE) (k : SE → β) : forceE e k = k e := by cases e <;> simp only [forceE, forceZ_eq]
def forceB {α : Type} : List α → (List α → β) → β
  | [], k => k []
  | a :: l, k => forceB l fun l' => k (a :: l')
theorem forceB_eq {α : Type} : ∀ (l : List α) (k : List α → β), forceB l k = k l
  | [], k => rfl
  | a :: l, k => by simp only [forceB, forceB_eq l]
def forceA : AV → (AV → β) → β
  | .int kk e, k => forceE e fun e' => k (.int kk e')
  | .bool e, k => forceE e fun e' => k (.bool e')
  | .ptr i o, k => forceN i fun i' => forceN o fun o' => k (.ptr i' o')
  | .row i o n s, k => forceN i fun i' => forceN o fun o' => forceE n fun n' => forceN s fun s' => k (.row i' o' n' s')
  | .mapv i, k => forceN i fun i' => k (.mapv i')
  | .erow i p o s, k => forceN i fun i' => forceN p fun p' => forceN o fun o' => forceN s fun s' => k (.erow i' p' o' s')
  | .str ⟨⟨l⟩⟩, k => forceB l fun l' => k (.str ⟨⟨l'⟩⟩)
  | .fn f c, k => forceA c fun c' => k (.fn f c')
  | .fnx f c, k => forceA c fun c' => k (.fnx f c')
  | .iface t v, k => forceA v fun v' => k (.iface t v')
  | .agg l, k => forceA l fun l' => k (.agg l')
  | .tuple l, k => forceA l fun l' => k (.tuple l')
  | .cons a b, k => forceA a fun a' => forceA b fun b' => k (.cons a' b')
  | v, k => k v
theorem forceA_eq : ∀ (v : AV) (k : AV → β), forceA v k = k v := by
  intro v
  induction v with
  | int kk e => intro k; simp only [forceA, forceE_eq]
  | bool e => intro k; simp only [forceA, forceE_eq]
  | ptr i o => intro k; simp only [forceA, forceN_eq]
  | row i o n s => intro k; simp only [forceA, forceN_eq, forceE_eq]
  | mapv i => intro k; simp only [forceA, forceN_eq]
  | erow i p o s => intro k; simp only [forceA, forceN_eq]
  | str s => intro k; obtain ⟨⟨l⟩⟩ := s; simp only [forceA, forceB_eq]
  | fn f c ih => intro k; simp only [forceA, ih]
  | fnx f c ih => intro k; simp only [forceA, ih]
  | iface t v ih => intro k; simp only [forceA, ih]
  | agg l ih => intro k; simp only [forceA, ih]
  | tuple l ih => intro k; simp only [forceA, ih]
  | cons a b iha ihb => intro k; simp only [forceA, iha, ihb]
  | _ => intro k; rfl
def forceAs : List AV → (List AV → β) → β
  | [], k => k []
  | a :: l, k => forceA a fun a' => forceAs l fun l' => k (a' :: l')
theorem forceAs_eq : ∀ (l : List AV) (k : List AV → β), forceAs l k = k l
  | [], k => rfl
  | a :: l, k => by simp only [forceAs, forceA_eq, forceAs_eq l]
def forceSl : List (Option AV) → (List (Option AV) → β) → β
  | [], k => k []
  | some a :: l, k => forceA a fun a' => forceSl l fun l' => k (some a' :: l')
  | none :: l, k => forceSl l fun l' => k (none :: l')
theorem forceSl_eq : ∀ (l : List (Option AV)) (k : List (Option AV) → β), forceSl l k = k l
  | [], k => rfl
  | some a :: l, k => by simp only [forceSl, forceA_eq, forceSl_eq l]
  | none :: l, k => by simp only [forceSl, forceSl_eq l]
def forceOb (o : AObj) (k : AObj → β) : β := match o with
  | .cells c ty own g => forceAs c fun c' => k (.cells c' ty own g)
  | .mp ks vs => forceB ks fun ks' => forceAs vs fun vs' => k (.mp ks' vs')
  | o => k o
theorem forceOb_eq (o : AObj) (k : AObj → β) : forceOb o k = k o := by cases o <;> simp only [forceOb, forceAs_eq, forceB_eq]
def forceMe : List AObj → (List AObj → β) → β
  | [], k => k []
  | o :: l, k => forceOb o fun o' => forceMe l fun l' => k (o' :: l')
theorem forceMe_eq : ∀ (l : List AObj) (k : List AObj → β), forceMe l k = k l
  | [], k => rfl
  | o :: l, k => by simp only [forceMe, forceOb_eq, forceMe_eq l]
def forceSt (st : ASt) (k : ASt → β) : β := forceSl st.slots fun sl => forceMe st.mem fun m => k { slots := sl, mem := m, pc := st.pc }
theorem forceSt_eq (st : ASt) (k : ASt → β) : forceSt st k = k st := by simp only [forceSt, forceSl_eq, forceMe_eq]
end

/-! A region that draws, by a table: one state for each set of operations that are done. -/
structure TE where
  key : Nat
  kS : Bool
  m : Nat
  l : Array Bool
  st : ASt
def keyL : List Bool → Nat
  | [] => 1
  | b :: l => match b with
    | true => 2 * keyL l + 1
    | false => 2 * keyL l
def satT (P : Program) (ops : Array Oper) (ds : List Nat) (m0 m1 : List AObj) (kS : Bool) : Nat → Array Bool → ASt → Option TE
  | 0, listed, st => match Region.ready .any ops listed with
    | [] => some ⟨keyL listed.toList, kS, 0, listed, st⟩
    | _ => none
  | m + 1, listed, st => match Region.ready .any ops listed with
    | [] => some ⟨keyL listed.toList, kS, m + 1, listed, st⟩
    | rs => match findEarly P st ops ds m0 m1 kS listed rs with
      | .take _ dst reqs v listed' => if knownAll [] reqs = true then forceA v fun v => satT P ops ds m0 m1 kS m listed' (st.put dst v) else none
      | .split _ _ => none
      | .no => some ⟨keyL listed.toList, kS, m + 1, listed, st⟩
def nilP : List (SE × Bool) → Bool
  | [] => true
  | _ => false
def insT (e : TE) : List TE → Option (List TE)
  | [] => some [e]
  | x :: r => if Nat.beq x.key e.key = true then
      (if (beqBs x.l.toList e.l.toList && beqSl x.st.slots e.st.slots && beqM x.st.mem e.st.mem && nilP x.st.pc && nilP e.st.pc && (x.kS == e.kS) && Nat.beq x.m e.m && Nat.beq x.key e.key) = true then some (x :: r) else none)
    else match insT e r with
      | some r' => some (x :: r')
      | none => none
def stepsT (P : Program) (ops : Array Oper) (ds : List Nat) (m0 m1 : List AObj) (step : Nat → ASt → Option ASt) (e : TE) : List Nat → List TE → Option (List TE)
  | [], acc => some acc
  | i :: r, acc => match e.m with
    | 0 => none
    | m + 1 => match step i e.st with
      | none => none
      | some st' => forceSt st' fun st' => if (keptM m1 st'.mem && (ds.contains i || keptM m0 st'.mem)) = true then
          match satT P ops ds m0 m1 (keptM m0 st'.mem) m (e.l.setIfInBounds i true) st' with
          | none => none
          | some e' => forceN e'.key fun ky => forceB e'.l.toList fun ll => forceSt e'.st fun s2 => match insT ⟨ky, e'.kS, e'.m, ⟨ll⟩, s2⟩ acc with
            | none => none
            | some acc' => stepsT P ops ds m0 m1 step e r acc'
        else none
def nextT (P : Program) (ops : Array Oper) (ds : List Nat) (m0 m1 : List AObj) (step : Nat → ASt → Option ASt) : List TE → List TE → Option (List TE)
  | [], acc => some acc
  | e :: r, acc => match Region.ready .any ops e.l with
    | [] => match insT e acc with
      | none => none
      | some acc' => nextT P ops ds m0 m1 step r acc'
    | rs => match stepsT P ops ds m0 m1 step e rs acc with
      | none => none
      | some acc' => nextT P ops ds m0 m1 step r acc'
def doneT (ops : Array Oper) : List TE → Option ASt
  | [e] => match Region.ready .any ops e.l with
    | [] => some e.st
    | _ => none
  | _ => none
def tblT (P : Program) (ops : Array Oper) (ds : List Nat) (m0 m1 : List AObj) (step : Nat → ASt → Option ASt) : Nat → List TE → Option ASt
  | 0, _ => none
  | f + 1, es => match doneT ops es with
    | some st => some st
    | none => match nextT P ops ds m0 m1 step es [] with
      | none => none
      | some es' => tblT P ops ds m0 m1 step f es'
def startT (P : Program) (ops : Array Oper) (ds : List Nat) (m0 m1 : List AObj) (step : Nat → ASt → Option ASt) (st : ASt) : Option ASt :=
  match satT P ops ds m0 m1 true ops.size (Array.replicate ops.size false) st with
  | none => none
  | some e => tblT P ops ds m0 m1 step (ops.size + 1) [e]
def endK (k : Nat) : AExit → ASt → Tree
  | .normal, st => endA k st
  | _, _ => .fail 33

def run (P : Program) (cfg : Cfg) : Nat → Option (List Nat) → Task → ASt → (AExit → ASt → Tree) → Tree
  | 0, _, _, _, _ => .fail 0
  | n + 1, top, .code c, st, K => match c with
    | .skip | .label _ => K .normal st
    | .ret => K .ret st
    | .exit id => K (.exit id) st
    | .seq a b => run P cfg n top (.code a) st fun ex st' => match ex with
      | .normal => run P cfg n top (.code b) st' K
      | ex => K ex st'
    | .block id c => match cfg.holes (.block id c) st with
      | some (ex, st') => K ex st'
      | none => run P cfg n top (.code c) st fun ex st' => match ex with
        | .exit id' => if id' = id then K .normal st' else K (.exit id') st'
        | ex => K ex st'
    | .cond c a b => match boolOf (opd st.slots c) with
      | some e => mkIte e st fun st' t => run P cfg n top (.code (if t then a else b)) st' K
      | none => .fail 4
    | .scope c => run P cfg n top (.code c) st K
    | .region _ ops false => forceS st fun st => run P cfg n none (.ops ops (List.range ops.size)) st K
    | .region id ops true => forceS st fun st =>
      match cfg.holes (.region id ops true) st with
      | some (ex, st') => K ex st'
      | none =>
      match (if Nat.ble cfg.tbl ops.size = true then
          startT P ops (storesOf cfg.wr ops ++ (if top.isSome = true then hintOf id cfg.writers else [])) st.mem (strike st.mem (guessS cfg.wr P st.mem ops.toList st.slots ++ (if top.isSome = true then hintOf id cfg.hints else [])))
            (fun i st' => decoS (run P cfg n none (.oper ops i) st' (endK st.mem.length)).one) st
        else none) with
      | some st' => K .normal st'
      | none => run P cfg n none (.draw ops (storesOf cfg.wr ops ++ (if top.isSome = true then hintOf id cfg.writers else [])) st.mem (strike st.mem (guessS cfg.wr P st.mem ops.toList st.slots ++ (if top.isSome = true then hintOf id cfg.hints else []))) true (Array.replicate ops.size false) ops.size) st K
    | .loop c =>
      match top.bind fun ks => ((Code.key c).bind fun k => findLoop k cfg.loops).bind fun sp => if ks.contains sp.key then none else some (ks, sp) with
      | some (ks, sp) =>
        let h := headOf sp st
        let θ := bindAll sp st
        if fit θ h st && lowKeys θ then
          mkFacts θ (.loop sp.key θ (run P cfg n (some (sp.key :: ks)) (.code c) h fun ex st' => match ex with
            | .normal =>
              let θ' := bindAll sp st'
              if fit θ' h st' && lowKeys θ' then mkFacts θ' (.again sp.key θ') h.pc else .fail 6
            | ex => K ex st')) h.pc
        else .fail 5
      | none => run P cfg n top (.rounds c) st K
    | _ => .fail 7
  | n + 1, top, .rounds c, st, K => run P cfg n top (.code c) st fun ex st' => match ex with
      | .normal => run P cfg n top (.rounds c) st' K
      | ex => K ex st'
  | n + 1, _, .ops ops l, st, K => match l with
    | [] => K .normal st
    | i :: r => run P cfg n none (.oper ops i) st fun ex st' => match ex with
      | .normal => run P cfg n none (.ops ops r) st' K
      | _ => .fail 8
  | n + 1, _, .draw ops ds m0 m1 kS listed m, st, K =>
    match Region.ready .any ops listed with
    | [] => K .normal st
    | rs => match m with
      | 0 => .fail 9
      | m + 1 => match findEarly P st ops ds m0 m1 kS listed rs with
        | .take _ dst reqs v listed' => forceA v fun v => mkNeeds reqs st fun st' => run P cfg n none (.draw ops ds m0 m1 kS listed' m) (st'.put dst v) K
        | .split d e => mkIte e st fun st' b => run P cfg n none (.draw ops ds m0 m1 kS listed (m + 1)) (st'.put (some d) (.bool (.lit (ofB b)))) K
        | .no => allOf (fun i => run P cfg n none (.oper ops i) st fun ex st' => match ex with
            | .normal => if keptM m1 st'.mem && (ds.contains i || keptM m0 st'.mem) then run P cfg n none (.draw ops ds m0 m1 (keptM m0 st'.mem) (listed.setIfInBounds i true) m) st' K else .fail (i * 100 + 10)
            | _ => .fail 11) rs
  | n + 1, _, .oper ops i, st, K => match ops[i]? with
    | none => .fail 12
    | some o => match guardA ops st.slots o with
      | .bad => .fail 13
      | .no => K .normal (st.put o.dst (.tuple .nil))
      | .sym d e => mkIte e st fun st' b => run P cfg n none (.oper ops i) (st'.put (some d) (.bool (.lit (ofB b)))) K
      | .yes => match splitI P st.slots o.op with
       | some (d, k, ix, m) => splitRun ix (List.range m) st fun st' j => run P cfg n none (.oper ops i) (st'.put (some d) (.int k (.lit j))) K
       | none => match pureA P st.mem (opd st.slots) o.op with
        | some (reqs, v) => forceA v fun v => mkNeeds reqs st fun st' => K .normal (st'.put o.dst v)
        | none => match effB P st.mem (opd st.slots) o.op with
          | some (_, v, mem') => forceA v fun v => K .normal { (st.put o.dst v) with mem := mem' }
          | none => match appA P st.mem (opd st.slots) o.op (pickP P st.mem (opd st.slots) o.op st.pc cfg.pre) with
           | some (reqs, v, mem') => mkNeeds reqs st fun st' => K .normal { (st'.put o.dst v) with mem := mem' }
           | none => match callA P (opd st.slots) o.op with
            | none => .fail (i * 100 + 14)
            | some (f, args) => if cfg.ok.contains f = false then .fail (1000 + f) else
              match cfg.sums f args st.mem with
              | some out => outRun out st fun v mem' st' => forceA v fun v => K .normal { slots := updS st'.slots o.dst v, mem := mem', pc := st'.pc }
              | none => match P.funcs[f]? with
                | none => .fail 15
                | some fn => match fn.body with
                  | none => .fail 16
                  | some c => if fn.ntmps < args.length then .fail 17 else
                    run P cfg n none (.code c) { slots := args.map some ++ List.replicate (fn.ntmps - args.length) (some (.tuple .nil)), mem := st.mem, pc := st.pc } fun ex st' =>
                      match ex with
                      | .exit _ => .fail 18
                      | _ => match resultA P fn st' with
                        | some v => K .normal { slots := updS st.slots o.dst v, mem := st'.mem, pc := st'.pc }
                        | none => .fail 19

end Go.SX

/- Symbolic execution of the model's code, part 9: what the executor says of a piece of code is so. -/
namespace Go.SX
set_option linter.unusedSimpArgs false
set_option linter.unusedVariables false
variable {δ : List Deferred} {bs : List Ent} {ρ : Env} {P : Program} {w : World} {S : Nat → Prop} {w0 : World}

structure RelS (δ : List Deferred) (bs : List Ent) (ρ : Env) (S : Nat → Prop) (w0 : World) (st : ASt) (a : Act) (w : World) : Prop where
  size : a.tmps.size = st.slots.length
  slot : ∀ (i : Nat) v, st.slots[i]? = some (some v) → dv bs ρ v = some (a.tmps.getD i undef)
  defers : a.defers = δ
  mem : RelM bs ρ S w0 st.mem w
  pc : ∀ p ∈ st.pc, evB ρ p.1 = p.2

theorem opd_sound {st : ASt} {a : Act} (h : ∀ (i : Nat) v, st.slots[i]? = some (some v) → dv bs ρ v = some (a.tmps.getD i undef)) (x : Operand) (v : AV) (hx : opd st.slots x = some v) : dv bs ρ v = some (a.eval x) := by
  cases x with
  | tmp t =>
    simp only [opd] at hx
    split at hx
    · rename_i y hy
      subst hx
      exact h t v hy
    · cases hx
  | const c => exact ofV_sound hx
  | global g => cases hx; rfl
  | func f => cases hx; rfl

theorem RelS.put {st : ASt} {a : Act} (h : RelS δ bs ρ S w0 st a w) (dst : Option Tmp) {v : AV} {z : Value} (hv : dv bs ρ v = some z) : RelS δ bs ρ S w0 (st.put dst v) (a.put dst z) w := by
  cases dst with
  | none => exact h
  | some d =>
    refine ⟨by simp [Act.put, ASt.put, updS, h.size], ?_, h.defers, h.mem, h.pc⟩
    intro i u hi
    simp only [ASt.put, updS, List.getElem?_set] at hi
    simp only [Act.put, Array.getD_eq_getD_getElem?, Array.getElem?_setIfInBounds]
    split at hi
    · rename_i he
      subst he
      split at hi
      · rename_i hlt
        cases hi
        simp [h.size, hlt, hv]
      · cases hi
    · rename_i he
      simp only [he, if_false]
      simpa using h.slot i u hi

theorem RelS.pcs {st : ASt} {a : Act} (h : RelS δ bs ρ S w0 st a w) {c : SE} {b : Bool} (hc : evB ρ c = b) : RelS δ bs ρ S w0 { st with pc := (c, b) :: st.pc } a w :=
  ⟨h.size, h.slot, h.defers, h.mem, fun p hp => by
    rcases List.mem_cons.1 hp with rfl | hp
    · exact hc
    · exact h.pc p hp⟩

theorem impB_sound {d c : SE} {b t : Bool} (hd : evB ρ d = b) (h : impB d b c = some t) : evB ρ c = t := by
  unfold impB at h
  split at h
  · rename_i e lo x e' lo' y h1 h2
    split at h
    · rename_i he
      have he := beqS_eq he
      subst he
      have k1 : if lo = true then x ≤ den ρ e else den ρ e ≤ x := by
        cases b with
        | true => exact (bndT_iff h1).1 hd
        | false => exact (bndF_iff h1).1 hd
      have k2 := bndT_iff (ρ := ρ) h2
      have no : ∀ {p : Prop}, (evB ρ c = true ↔ p) → ¬ p → evB ρ c = false := fun hi hp => by
        cases hb : evB ρ c with
        | false => rfl
        | true => exact absurd (hi.1 hb) hp
      split at h <;> split at h <;> first | (cases h; done) | skip
      all_goals (cases h; simp only [if_true, if_false, Bool.false_eq_true] at k1 k2)
      · exact k2.2 (by omega)
      · exact no k2 (by omega)
      · exact no k2 (by omega)
      · exact k2.2 (by omega)
    · cases h
  · cases h

theorem findPc_sound {c : SE} : ∀ {pc : List (SE × Bool)} {b : Bool}, (∀ p ∈ pc, evB ρ p.1 = p.2) → findPc c pc = some b → evB ρ c = b
  | [], b, h, hf => by cases hf
  | (d, b') :: r, b, h, hf => by
    have h0 := h (d, b') (List.mem_cons_self ..)
    simp only [findPc] at hf
    split at hf
    · rename_i he; have he := beqS_eq he; subst he; cases hf; exact h0
    · split at hf
      · rename_i he
        have he := beqS_eq he
        subst he
        cases hf
        rw [evB_mkNot] at h0
        simp only at h0
        rw [← h0]; simp
      · split at hf
        · rename_i t ht
          cases hf
          exact impB_sound h0 ht
        · split at hf
          · rename_i t ht
            cases hf
            exact impE_sound h0 ht
          · exact findPc_sound (fun p hp => h p (List.mem_cons_of_mem _ hp)) hf

variable {I : Nat → Env → Prop} {L : Env → AV → List AObj → Prop}

theorem mkIte_sound {c : SE} {st : ASt} {a : Act} {k : ASt → Bool → Tree} (h : RelS δ bs ρ S w0 st a w) (ht : (mkIte c st k).holds I L ρ) :
    ∃ st', RelS δ bs ρ S w0 st' a w ∧ st'.slots = st.slots ∧ st'.mem = st.mem ∧ (k st' (evB ρ c)).holds I L ρ := by
  unfold mkIte at ht
  split at ht
  · exact ⟨st, h, rfl, rfl, ht⟩
  · split at ht
    · rename_i b hb
      rw [findPc_sound h.pc hb]
      exact ⟨st, h, rfl, rfl, ht⟩
    · cases hc : evB ρ c with
      | true => exact ⟨_, h.pcs hc, rfl, rfl, ht.1 hc⟩
      | false => exact ⟨_, h.pcs hc, rfl, rfl, ht.2 hc⟩

theorem mkNeeds_sound : ∀ {reqs : List SE} {st : ASt} {a : Act} {k : ASt → Tree}, RelS δ bs ρ S w0 st a w → (mkNeeds reqs st k).holds I L ρ →
    ∃ st', RelS δ bs ρ S w0 st' a w ∧ st'.slots = st.slots ∧ st'.mem = st.mem ∧ (∀ c ∈ reqs, evB ρ c = true) ∧ (k st').holds I L ρ
  | [], st, a, k, h, ht => ⟨st, h, rfl, rfl, (fun _ hc => by cases hc), ht⟩
  | c :: r, st, a, k, h, ht => by
    have fin : ∀ {st1 : ASt}, RelS δ bs ρ S w0 st1 a w → st1.slots = st.slots → st1.mem = st.mem → evB ρ c = true → (mkNeeds r st1 k).holds I L ρ →
        ∃ st', RelS δ bs ρ S w0 st' a w ∧ st'.slots = st.slots ∧ st'.mem = st.mem ∧ (∀ d ∈ c :: r, evB ρ d = true) ∧ (k st').holds I L ρ := by
      intro st1 h1 e1 e2 hc ht1
      obtain ⟨st', h2, e3, e4, h3, h4⟩ := mkNeeds_sound h1 ht1
      refine ⟨st', h2, e3.trans e1, e4.trans e2, fun d hd => ?_, h4⟩
      rcases List.mem_cons.1 hd with rfl | hd
      · exact hc
      · exact h3 d hd
    unfold mkNeeds at ht
    split at ht
    · rename_i n
      split at ht
      · exact ht.elim
      · rename_i hn
        exact fin h rfl rfl (by simp [evB, den, hn]) ht
    · split at ht
      · rename_i hb
        exact fin h rfl rfl (findPc_sound h.pc hb) ht
      · exact ht.elim
      · exact fin (h.pcs ht.1) rfl rfl ht.1 ht.2

theorem outRun_sound : ∀ {out : Out} {st : ASt} {a : Act} {k : AV → List AObj → ASt → Tree}, RelS δ bs ρ S w0 st a w → (outRun out st k).holds I L ρ →
    ∃ st' v mem', RelS δ bs ρ S w0 st' a w ∧ st'.slots = st.slots ∧ st'.mem = st.mem ∧ out.pick ρ = some (v, mem') ∧ (k v mem' st').holds I L ρ := by
  intro out
  induction out with
  | ite c x y ihx ihy =>
    intro st a k h ht
    obtain ⟨st1, h1, e1, e2, ht⟩ := mkIte_sound h ht
    cases hc : evB ρ c with
    | true =>
      rw [hc] at ht
      obtain ⟨st', v, m, h2, e3, e4, h3, h4⟩ := ihx h1 ht
      exact ⟨st', v, m, h2, e3.trans e1, e4.trans e2, by simp only [Out.pick, hc, if_true]; exact h3, h4⟩
    | false =>
      rw [hc] at ht
      obtain ⟨st', v, m, h2, e3, e4, h3, h4⟩ := ihy h1 ht
      exact ⟨st', v, m, h2, e3.trans e1, e4.trans e2, by simp only [Out.pick, hc, Bool.false_eq_true, if_false]; exact h3, h4⟩
  | need c x ihx =>
    intro st a k h ht
    obtain ⟨st1, h1, e1, e2, hn, ht⟩ := mkNeeds_sound h ht
    obtain ⟨st', v, m, h2, e3, e4, h3, h4⟩ := ihx h1 ht
    exact ⟨st', v, m, h2, e3.trans e1, e4.trans e2, by simp only [Out.pick, hn c (List.mem_singleton.2 rfl), if_true]; exact h3, h4⟩
  | done v m => intro st a k h ht; exact ⟨st, v, m, h, rfl, rfl, rfl, ht⟩
  | fail n => intro st a k h ht; exact ht.elim

theorem guard_yes {ops : Array Oper} {st : ASt} {a : Act} {o : Oper} (h : RelS δ bs ρ S w0 st a w) (hg : guardA ops st.slots o = .yes) : Region.wanted o (yielded ops a.tmps) = true := by
  unfold guardA at hg
  unfold Region.wanted
  split at hg
  · rename_i he; rw [he]
  · rename_i j want he
    rw [he]
    split at hg
    · cases hg
    · rename_i d hd
      split at hg
      · rename_i n hs
        split at hg
        · rename_i hn
          have h1 := h.slot d _ hs
          have hlt : d < a.tmps.size := by rw [h.size]; exact (List.getElem?_eq_some_iff.1 hs).1
          simp only [dv, Option.some.injEq, Array.getD_eq_getD_getElem?] at h1
          have h2 : a.tmps[d]? = some (Value.bool (evB ρ (.lit n))) := by
            rw [Array.getElem?_eq_getElem hlt] at h1 ⊢
            simpa using h1.symm
          simp only [yielded, hd, Option.bind_some, h2, evB, den]
          simpa using hn
        · cases hg
      · cases hg
      · cases hg
      · cases hg

theorem guard_no {ops : Array Oper} {st : ASt} {a : Act} {o : Oper} (h : RelS δ bs ρ S w0 st a w) (hg : guardA ops st.slots o = .no) : Region.wanted o (yielded ops a.tmps) = false := by
  have pk : pickA st.slots o ≠ .no := by
    unfold pickA
    split
    · split <;> simp
    · simp
  unfold guardA at hg
  unfold Region.wanted
  split at hg
  · exact absurd hg pk
  · rename_i j want he
    rw [he]
    split at hg
    · cases hg
    · rename_i d hd
      split at hg
      · rename_i n hs
        split at hg
        · exact absurd hg pk
        · rename_i hn
          have h1 := h.slot d _ hs
          have hlt : d < a.tmps.size := by rw [h.size]; exact (List.getElem?_eq_some_iff.1 hs).1
          simp only [dv, Option.some.injEq, Array.getD_eq_getD_getElem?] at h1
          have h2 : a.tmps[d]? = some (Value.bool (evB ρ (.lit n))) := by
            rw [Array.getElem?_eq_getElem hlt] at h1 ⊢
            simpa using h1.symm
          simp only [yielded, hd, Option.bind_some, h2, evB, den]
          simpa using hn
      · cases hg
      · rename_i hs
        have h1 := h.slot d _ hs
        have hlt : d < a.tmps.size := by rw [h.size]; exact (List.getElem?_eq_some_iff.1 hs).1
        simp only [dv, dvs, Option.map_some, Option.some.injEq, Array.getD_eq_getD_getElem?] at h1
        have h2 : a.tmps[d]? = some (Value.tuple #[]) := by
          rw [Array.getElem?_eq_getElem hlt] at h1 ⊢
          simpa using h1.symm
        simp [yielded, hd, h2]
      · cases hg

theorem guard_sym {ops : Array Oper} {st : ASt} {o : Oper} {d : Nat} {e : SE} (hg : guardA ops st.slots o = .sym d e) : st.slots[d]? = some (some (.bool e)) := by
  have pk : pickA st.slots o = .sym d e → st.slots[d]? = some (some (.bool e)) := by
    intro hg
    unfold pickA at hg
    split at hg
    · split at hg
      · cases hg
      · rename_i hs; cases hg; exact hs
      · cases hg
    · cases hg
  unfold guardA at hg
  split at hg
  · exact pk hg
  · split at hg
    · cases hg
    · split at hg
      · split at hg
        · exact pk hg
        · cases hg
      · rename_i hs; cases hg; exact hs
      · cases hg
      · cases hg

/-- A truth that is decided stands for what it was. -/
theorem RelS.decide {st st' : ASt} {a : Act} {d : Nat} {e : SE} (h : RelS δ bs ρ S w0 st' a w) (hs : st'.slots = st.slots) (hd : st.slots[d]? = some (some (.bool e))) :
    RelS δ bs ρ S w0 (st'.put (some d) (.bool (.lit (ofB (evB ρ e))))) a w := by
  rw [← hs] at hd
  have h1 := h.slot d _ hd
  have h2 := h.put (some d) (v := .bool (.lit (ofB (evB ρ e)))) (z := a.tmps.getD d undef) (by rw [← h1]; simp [dv, evB_lit_ofB])
  have h3 : a.put (some d) (a.tmps.getD d undef) = a := by
    have hlt : d < a.tmps.size := by rw [h.size]; exact (List.getElem?_eq_some_iff.1 hd).1
    show ({ a with tmps := a.tmps.setIfInBounds d (a.tmps.getD d undef) } : Act) = a
    have : a.tmps.setIfInBounds d (a.tmps.getD d undef) = a.tmps := by
      apply Array.ext'
      apply List.ext_getElem?
      intro i
      simp only [Array.toList_setIfInBounds, List.getElem?_set]
      split
      · rename_i he
        subst he
        simp [hlt]
      · rfl
    rw [this]
  rw [h3] at h2
  exact h2

theorem splitI_slot {slots : List (Option AV)} {op : Op} {d : Nat} {k : IntKind} {ix : SE} {m : Nat} (h : splitI P slots op = some (d, k, ix, m)) : slots[d]? = some (some (.int k ix)) := by
  have pin : ∀ (d' m' : Nat), (match slots[d']? with
    | some (some (.int k ix)) => match ix with
      | .lit _ => none
      | _ => if m' ≤ 20 then some (d', k, ix, m') else none
    | _ => none) = some (d, k, ix, m) → slots[d]? = some (some (.int k ix)) := by
    intro d' m' h
    split at h
    · rename_i k' ix' hs
      split at h
      · cases h
      · split at h
        · cases h; exact hs
        · cases h
    · cases h
  unfold splitI at h
  simp only at h
  split at h
  · split at h
    · exact pin _ _ h
    · split at h
      · exact pin _ _ h
      · cases h
    · cases h
  · split at h
    · exact pin _ _ h
    · cases h
  · cases h
theorem splitRun_sound {ix : SE} {a : Act} {f : ASt → Nat → Tree} : ∀ {l : List Nat} {st : ASt}, RelS δ bs ρ S w0 st a w → (splitRun ix l st f).holds I L ρ →
    ∃ (st' : ASt) (j : Nat), RelS δ bs ρ S w0 st' a w ∧ st'.slots = st.slots ∧ st'.mem = st.mem ∧ den ρ ix = (j : Int) ∧ (f st' j).holds I L ρ
  | [], st, h, ht => ht.elim
  | j :: r, st, h, ht => by
    obtain ⟨st1, h1, e1, e2, ht⟩ := mkIte_sound h ht
    cases hc : evB ρ (mkCmp .eql ix (.lit j)) with
    | true =>
      rw [hc] at ht
      rw [evB_mkCmp] at hc
      exact ⟨st1, j, h1, e1, e2, by simpa [cmpI, den] using hc, ht⟩
    | false =>
      rw [hc] at ht
      obtain ⟨st', j', h2, e3, e4, h3, h4⟩ := splitRun_sound h1 ht
      exact ⟨st', j', h2, e3.trans e1, e4.trans e2, h3, h4⟩
theorem RelS.pin {st st' : ASt} {a : Act} {d : Nat} {k : IntKind} {ix : SE} {j : Nat} (h : RelS δ bs ρ S w0 st' a w) (hs : st'.slots = st.slots) (hd : st.slots[d]? = some (some (.int k ix))) (hj : den ρ ix = (j : Int)) :
    RelS δ bs ρ S w0 (st'.put (some d) (.int k (.lit j))) a w := by
  rw [← hs] at hd
  have h1 := h.slot d _ hd
  obtain ⟨e1, e2⟩ := dv_int h1
  rw [hj] at e1 e2
  have h2 := h.put (some d) (v := .int k (.lit j)) (z := a.tmps.getD d undef) (by rw [e1]; exact dv_int_mk (e := .lit _) e2)
  have h3 : a.put (some d) (a.tmps.getD d undef) = a := by
    have hlt : d < a.tmps.size := by rw [h.size]; exact (List.getElem?_eq_some_iff.1 hd).1
    show ({ a with tmps := a.tmps.setIfInBounds d (a.tmps.getD d undef) } : Act) = a
    have : a.tmps.setIfInBounds d (a.tmps.getD d undef) = a.tmps := by
      apply Array.ext'
      apply List.ext_getElem?
      intro i
      simp only [Array.toList_setIfInBounds, List.getElem?_set]
      split
      · rename_i he
        subst he
        simp [hlt]
      · rfl
    rw [this]
  rw [h3] at h2
  exact h2

theorem RelM.below {mem : List AObj} {w' : World} (h : RelM bs ρ S w0 mem w) (hb : RowKit.Below w.heap.size w w') : RelM bs ρ S w0 mem w' := by
  refine ⟨h.len, fun i o ho => ?_, h.own, h.apart, ?_⟩
  · obtain ⟨b, hb', hr⟩ := h.rel i o ho
    exact ⟨b, hb', hr.same fun hl => hb.block _ (hr.lt hl)⟩
  · exact ⟨hb.os.trans h.keep.os, hb.tape.trans h.keep.tape, hb.output.trans h.keep.output, Nat.le_trans h.keep.size hb.size,
      fun b hS => by rw [hb.block b (by have := h.keep.old b hS; have := h.keep.size; omega)]; exact h.keep.block b hS, h.keep.old⟩

theorem RelM.drew {mem : List AObj} (h : RelM bs ρ S w0 mem w) : RelM bs ρ S w0 mem { w with drawn := w.drawn + 1 } :=
  h.below ((RowKit.Below.refl _ w).drew)

theorem MRel.mono {mem : List AObj} (ex : List Ent) (h : MRel bs ρ mem w) : MRel (bs ++ ex) ρ mem w := fun i o ho => by
  obtain ⟨b, hb, hr⟩ := h i o ho
  exact ⟨b, by rw [List.getElem?_append_left (List.getElem?_eq_some_iff.1 hb).1]; exact hb, hr.mono ex⟩

/-- What held of some blocks holds, where those that are not struck are as they were. -/
theorem kept_sound {bs0 ex : List Ent} {w1 w' : World} : ∀ {m1 mem : List AObj}, keptM m1 mem = true → MRel bs0 ρ m1 w1 → MRel (bs0 ++ ex) ρ mem w' → MRel bs0 ρ m1 w' := by
  have key : ∀ {m1 mem : List AObj}, keptM m1 mem = true → ∀ (i : Nat) o, m1[i]? = some o → o = .dead ∨ mem[i]? = some o := by
    intro m1
    induction m1 with
    | nil => intro mem _ i o ho; simp at ho
    | cons p r ih =>
      intro mem hk i o ho
      cases mem with
      | nil => cases p <;> simp [keptM] at hk
      | cons q s =>
        cases i with
        | zero =>
          simp only [List.getElem?_cons_zero, Option.some.injEq] at ho
          subst ho
          cases p <;> simp only [keptM, Bool.and_eq_true] at hk
          · exact .inr (by simp [beqO_eq hk.1])
          · exact .inr (by simp [beqO_eq hk.1])
          · exact .inr (by simp [beqO_eq hk.1])
          · exact .inr (by simp [beqO_eq hk.1])
          · exact .inr (by simp [beqO_eq hk.1])
          · exact .inl rfl
        | succ i =>
          have hk' : keptM r s = true := by cases p <;> simp only [keptM, Bool.and_eq_true] at hk <;> first | exact hk.2 | exact hk
          simpa using ih hk' i o (by simpa using ho)
  intro m1 mem hk h1 h2 i o ho
  obtain ⟨b, hb, hr⟩ := h1 i o ho
  refine ⟨b, hb, ?_⟩
  rcases key hk i o ho with rfl | hm
  · trivial
  · obtain ⟨b', hb', hr'⟩ := h2 i o hm
    rw [List.getElem?_append_left (List.getElem?_eq_some_iff.1 hb).1, hb] at hb'
    cases hb'
    cases o with
    | cells c ty own g =>
      obtain ⟨vs, tail, h3, h4, h5⟩ := hr
      obtain ⟨vs', tail', h3', h4', h5'⟩ := hr'
      have := dvl_mono ex h3
      rw [this] at h3'
      cases h3'
      exact ⟨vs, tail', h3, h4', h5'⟩
    | sym n cap row ty => exact hr'
    | mp ks vs =>
      obtain ⟨us, es, clock, h3, h4, h5, h6, h7⟩ := hr
      obtain ⟨us', es', clock', h3', h4', h5', h6', h7'⟩ := hr'
      have := dvl_mono ex h3
      rw [this] at h3'
      obtain rfl := Option.some.inj h3'
      exact ⟨us, es', clock', h3, h4, h5, h6', h7'⟩
    | iter m =>
      obtain ⟨bm, since, h3, _⟩ := hr
      obtain ⟨bm', since', h3', h4'⟩ := hr'
      rw [List.getElem?_append_left (List.getElem?_eq_some_iff.1 h3).1, h3] at h3'
      cases h3'
      exact ⟨bm, since', h3, h4'⟩
    | siter s pos => exact hr'
    | dead => trivial

theorem strike_sound {mem : List AObj} (ids : List Nat) (h : MRel bs ρ mem w) : MRel bs ρ (strike mem ids) w := by
  intro i o ho
  cases ids with
  | nil => exact h i o ho
  | cons id0 ids =>
  simp only [strike, List.getElem?_map, Option.map_eq_some_iff] at ho
  obtain ⟨⟨o', j⟩, hz, ho⟩ := ho
  rw [List.getElem?_zipIdx] at hz
  simp only [Option.map_eq_some_iff, Prod.mk.injEq] at hz
  obtain ⟨o2, ho2, rfl, rfl⟩ := hz
  obtain ⟨b, hb, hr⟩ := h i o2 ho2
  refine ⟨b, hb, ?_⟩
  simp only at ho
  split at ho
  · subst ho; trivial
  · subst ho; exact hr

def resV (tmps : Array Value) : ResultVar → Sem Value
  | .tmp t => pure (tmps.getD t undef)
  | .cell c t => do loadVar t (← asAddr (tmps.getD c undef))
theorem results_eq (fn : Func) (tmps : Array Value) : results fn tmps = (do let vs ← fn.results.mapM (resV tmps); pure (if h : vs.size = 1 then vs[0] else .tuple vs)) := by
  unfold results
  congr 1

theorem resA_sound {st : ASt} {a : Act} {mem : List AObj} (hm : MRel bs ρ mem w) (h : ∀ (i : Nat) v, st.slots[i]? = some (some v) → dv bs ρ v = some (a.tmps.getD i undef)) :
    ∀ {rs : List ResultVar} {l : List AV}, resA P mem st.slots rs = some l → ∃ vs, dvl bs ρ l = some vs ∧
      (rs.mapM (resV a.tmps)).run P w = .ok vs w
  | [], l, hl => by cases hl; exact ⟨[], rfl, rfl⟩
  | .tmp t :: r, l, hl => by
    simp only [resA] at hl
    split at hl
    · rename_i v hv
      simp only [Option.map_eq_some_iff] at hl
      obtain ⟨l', hl', rfl⟩ := hl
      obtain ⟨vs, h1, h2⟩ := resA_sound hm h hl'
      refine ⟨_, by simp only [dvl, h t v hv, h1, Option.bind_some, Option.map_some]; rfl, ?_⟩
      simp only [List.mapM_cons, resV, pure_bind, Sem.run_bind, h2, Result.andThen_ok, Sem.run_pure]
    · cases hl
  | .cell c t :: r, l, hl => by
    simp only [resA] at hl
    split at hl
    · rename_i id off hv
      split at hl
      · rename_i v hload
        simp only [Option.map_eq_some_iff] at hl
        obtain ⟨l', hl', rfl⟩ := hl
        obtain ⟨vs, h1, h2⟩ := resA_sound hm h hl'
        have hc := h c _ hv
        obtain ⟨z, hz, hrun⟩ := loadA_sound (P := P) hm hc hload (fun _ hc => by cases hc)
        simp only [dv, Option.map_eq_some_iff] at hc
        obtain ⟨b, hb, he⟩ := hc
        refine ⟨_, by simp only [dvl, hz, h1, Option.bind_some, Option.map_some]; rfl, ?_⟩
        rw [← he] at hrun
        simp only [Instr.loadAt, Instr.sureAddr, pure_bind] at hrun
        have hA : (asAddr (a.tmps.getD c undef)).run P w = .ok ⟨b.blk, b.base + off, none⟩ w := by rw [← he]; rfl
        simp only [List.mapM_cons, resV, Sem.run_bind, hA, Sem.run_pure, Result.andThen_ok, hrun, h2]
      · cases hl
    · cases hl

theorem resultA_sound {fn : Func} {st : ASt} {a : Act} {v : AV} (h : RelS δ bs ρ S w0 st a w) (hr : resultA P fn st = some v) : ∃ z, dv bs ρ v = some z ∧ (results fn a.tmps).run P w = .ok z w := by
  simp only [resultA, Option.map_eq_some_iff] at hr
  obtain ⟨l, hl, hv⟩ := hr
  obtain ⟨vs, h1, h2⟩ := resA_sound h.mem.rel h.slot hl
  have hlen := dvl_length h1
  have hrun : (results fn a.tmps).run P w = .ok (if h : vs.length = 1 then vs[0] else .tuple vs.toArray) w := by
    rw [results_eq, Array.mapM_eq_mapM_toList]
    simp only [Sem.run_bind, Sem.run_map, Sem.run_pure, h2]
    simp only [Result.andThen_ok, List.size_toArray]
    congr 1
  split at hv
  · rename_i u
    subst hv
    simp only [dvl, Option.bind_eq_some_iff, Option.map_eq_some_iff, Option.some.injEq] at h1
    obtain ⟨z, hz, us, rfl, rfl⟩ := h1
    exact ⟨z, hz, by simpa using hrun⟩
  · rename_i hne
    subst hv
    refine ⟨.tuple vs.toArray, by simp [dv, dvs_ofList, h1], ?_⟩
    have : vs.length ≠ 1 := by
      rw [hlen]
      intro h3
      obtain ⟨u, hu⟩ := List.length_eq_one_iff.1 h3
      exact hne u hu
    rw [dif_neg this] at hrun
    exact hrun

theorem allOf_holds {f : Nat → Tree} : ∀ {l : List Nat}, (allOf f l).holds I L ρ → ∀ i ∈ l, (f i).holds I L ρ
  | [], h, i, hi => by cases hi
  | [j], h, i, hi => by simp at hi; subst hi; exact h
  | j :: k :: r, h, i, hi => by
    rcases List.mem_cons.1 hi with rfl | hi
    · exact h.1
    · exact allOf_holds (l := k :: r) h.2 i hi

end Go.SX

/- Symbolic execution of the model's code, part 10: the executor's word holds. -/
namespace Go.SX
open Go.Proofs.YtnmmomopnaglbaaGreatDoorW.PrintLast
set_option linter.unusedSimpArgs false
set_option linter.unusedVariables false
variable {δ : List Deferred} {bs : List Ent} {ρ : Env} {P : Program} {w : World} {S : Nat → Prop} {w0 : World}

mutual
theorem den_sub (θ : List (Nat × SE)) : ∀ e : SE, den ρ (e.sub θ) = den (ρ.sub θ) e
  | .lit n => rfl
  | .var i => rfl
  | .bin op k a b => by simp only [SE.sub, den, den_sub θ a, den_sub θ b]
  | .conv k a => by simp only [SE.sub, den, den_sub θ a]
  | .cmp op a b => by simp only [SE.sub, den, den_sub θ a, den_sub θ b]
  | .not a => by simp only [SE.sub, den, den_sub θ a]
  | .and a b => by simp only [SE.sub, den, den_sub θ a, den_sub θ b]
  | .mx a b => by simp only [SE.sub, den, den_sub θ a, den_sub θ b]
  | .mn a b => by simp only [SE.sub, den, den_sub θ a, den_sub θ b]
  | .app f a => by simp only [SE.sub, den, dens_sub θ a]; rfl
  | .nil => rfl
  | .cons _ _ => rfl
theorem dens_sub (θ : List (Nat × SE)) : ∀ e : SE, dens ρ (e.subL θ) = dens (ρ.sub θ) e
  | .cons a b => by simp only [SE.subL, dens, den_sub θ a, dens_sub θ b]
  | .lit _ | .bin _ _ _ _ | .conv _ _ | .cmp _ _ _ | .not _ | .and _ _ | .mx _ _ | .mn _ _ | .app _ _ | .nil | .var _ => rfl
end
theorem evB_sub (θ : List (Nat × SE)) (e : SE) : evB ρ (e.sub θ) = evB (ρ.sub θ) e := by
  show (den ρ (e.sub θ) != 0) = _
  rw [den_sub]; rfl

mutual
theorem dv_sub (θ : List (Nat × SE)) : ∀ a : AV, dv bs ρ (a.sub θ) = dv bs (ρ.sub θ) a
  | .int k e => by simp only [AV.sub, dv, den_sub]
  | .bool e => by simp only [AV.sub, dv, evB_sub]
  | .sptr id i s o => by simp only [AV.sub, dv, den_sub]
  | .slice id o n c => by simp only [AV.sub, dv, den_sub]
  | .row id o n c => by simp only [AV.sub, dv, den_sub]
  | .bstr l => by simp only [AV.sub, dv, dens_sub]
  | .fn f c => by simp only [AV.sub, dv, dvs_sub θ c]
  | .fnx f c => by simp only [AV.sub, dv, dvs_sub θ c]
  | .iface t v => by simp only [AV.sub, dv, dv_sub θ v]
  | .xslice b o n c => by simp only [AV.sub, dv, den_sub]
  | .agg l => by simp only [AV.sub, dv, dvs_sub θ l]
  | .tuple l => by simp only [AV.sub, dv, dvs_sub θ l]
  | .cons a b => rfl
  | .str _ | .ptr _ _ | .arg _ | .mapv _ | .nilmap | .erow _ _ _ _ | .nilptr | .gptr _ | .nilslice | .nilFunc | .nilIface | .nil => rfl
theorem dvs_sub (θ : List (Nat × SE)) : ∀ a : AV, dvs bs ρ (a.sub θ) = dvs bs (ρ.sub θ) a
  | .cons a b => by simp only [AV.sub, dvs, dv_sub θ a, dvs_sub θ b]
  | .int _ _ | .bool _ | .xslice _ _ _ _ | .sptr _ _ _ _ | .slice _ _ _ _ | .row _ _ _ _ | .bstr _ | .fn _ _ | .fnx _ _ | .iface _ _ | .agg _ | .tuple _
  | .str _ | .ptr _ _ | .arg _ | .mapv _ | .nilmap | .erow _ _ _ _ | .nilptr | .gptr _ | .nilslice | .nilFunc | .nilIface | .nil => rfl
end
theorem dvl_sub (θ : List (Nat × SE)) : ∀ l : List AV, dvl bs ρ (l.map (AV.sub θ)) = dvl bs (ρ.sub θ) l
  | [] => rfl
  | a :: l => by simp only [List.map_cons, dvl, dv_sub θ a, dvl_sub θ l]

mutual
theorem dv_low (n : Nat) : ∀ (a : AV) {v : Value}, a.lowB n = true → dv bs ρ a = some v → dv (bs.take n) ρ a = some v
  | .int _ _, v, _, h | .bool _, v, _, h | .str _, v, _, h | .nilptr, v, _, h | .gptr _, v, _, h | .nilslice, v, _, h | .bstr _, v, _, h | .nilFunc, v, _, h | .nilIface, v, _, h | .nilmap, v, _, h | .xslice _ _ _ _, v, _, h => h
  | .row id off _ _, v, hl, h => by
    obtain ⟨b, hb, hc, rfl⟩ := dv_row h
    simp only [AV.lowB, decide_eq_true_eq] at hl
    exact dv_row_mk (by simp only [List.getElem?_take, hl, if_true]; exact hb) hc
  | .ptr id off, v, hl, h | .sptr id _ _ off, v, hl, h | .slice id off _ _, v, hl, h | .arg id, v, hl, h | .mapv id, v, hl, h | .erow id _ _ _, v, hl, h => by
    simp only [AV.lowB, decide_eq_true_eq] at hl
    simp only [dv, List.getElem?_take, hl, if_true]
    exact h
  | .fn f c, v, hl, h | .fnx f c, v, hl, h => by
    simp only [dv, Option.map_eq_some_iff] at h ⊢
    obtain ⟨b, hb, hv⟩ := h
    exact ⟨b, dvs_low n c hl hb, hv⟩
  | .agg l, v, hl, h | .tuple l, v, hl, h => by
    simp only [dv, Option.map_eq_some_iff] at h ⊢
    obtain ⟨b, hb, hv⟩ := h
    exact ⟨b, dvs_low n l hl hb, hv⟩
  | .iface t x, v, hl, h => by
    simp only [dv, Option.map_eq_some_iff] at h ⊢
    obtain ⟨b, hb, hv⟩ := h
    exact ⟨b, dv_low n x hl hb, hv⟩
  | .nil, v, _, h | .cons _ _, v, _, h => by simp [dv] at h
theorem dvs_low (n : Nat) : ∀ (a : AV) {v : List Value}, a.lowB n = true → dvs bs ρ a = some v → dvs (bs.take n) ρ a = some v
  | .nil, v, _, h => h
  | .cons a b, v, hl, h => by
    simp only [AV.lowB, Bool.and_eq_true] at hl
    simp only [dvs, Option.bind_eq_some_iff, Option.map_eq_some_iff] at h ⊢
    obtain ⟨x, hx, xs, hxs, hv⟩ := h
    exact ⟨x, dv_low n a hl.1 hx, xs, dvs_low n b hl.2 hxs, hv⟩
  | .int _ _, _, _, h | .bool _, _, _, h | .str _, _, _, h | .ptr _ _, _, _, h | .sptr _ _ _ _, _, _, h | .nilptr, _, _, h | .gptr _, _, _, h | .slice _ _ _ _, _, _, h | .arg _, _, _, h | .mapv _, _, _, h | .nilmap, _, _, h | .erow _ _ _ _, _, _, h | .row _ _ _ _, _, _, h | .nilslice, _, _, h | .bstr _, _, _, h | .xslice _ _ _ _, _, _, h
  | .fn _ _, _, _, h | .fnx _ _, _, _, h | .nilFunc, _, _, h | .iface _ _, _, _, h | .nilIface, _, _, h | .agg _, _, _, h | .tuple _, _, _, h => by simp [dvs] at h
end
theorem dvl_low (n : Nat) : ∀ {l : List AV} {vs : List Value}, l.all (AV.lowB n) = true → dvl bs ρ l = some vs → dvl (bs.take n) ρ l = some vs
  | [], vs, _, h => h
  | a :: l, vs, hl, h => by
    simp only [List.all_cons, Bool.and_eq_true] at hl
    simp only [dvl, Option.bind_eq_some_iff, Option.map_eq_some_iff] at h ⊢
    obtain ⟨x, hx, xs, hxs, hv⟩ := h
    exact ⟨x, dv_low n a hl.1 hx, xs, dvl_low n hl.2 hxs, hv⟩

theorem fitMem_get {θ : List (Nat × SE)} {n : Nat} : ∀ {m mem : List AObj}, fitMem θ n m mem = true → m.length ≤ mem.length ∧ ∀ (i : Nat) p, m[i]? = some p → mem[i]? = some (subObj θ p) ∧ belowObj n p = true
  | [], mem, h => ⟨Nat.zero_le _, fun i p hp => by simp at hp⟩
  | p :: r, [], h => by simp [fitMem] at h
  | p :: r, o :: s, h => by
    simp only [fitMem, Bool.and_eq_true] at h
    obtain ⟨h1, h2⟩ := fitMem_get h.2
    refine ⟨by simp; exact h1, fun i q hq => ?_⟩
    cases i with
    | zero => simp at hq; subst hq; exact ⟨by simp [beqO_eq h.1.1], h.1.2⟩
    | succ i => exact h2 i q (by simpa using hq)
theorem fitSlots_get {θ : List (Nat × SE)} {n : Nat} : ∀ {s t : List (Option AV)}, fitSlots θ n s t = true → s.length = t.length ∧ ∀ (i : Nat) p, s[i]? = some (some p) → t[i]? = some (some (p.sub θ)) ∧ p.lowB n = true
  | [], [], h => ⟨rfl, fun i p hp => by simp at hp⟩
  | none :: r, v :: s, h => by
    obtain ⟨h1, h2⟩ := fitSlots_get (s := r) (t := s) (by simpa [fitSlots] using h)
    refine ⟨by simp [h1], fun i q hq => ?_⟩
    cases i with
    | zero => simp at hq
    | succ i => exact h2 i q (by simpa using hq)
  | some p :: r, some v :: s, h => by
    simp only [fitSlots, Bool.and_eq_true] at h
    obtain ⟨h1, h2⟩ := fitSlots_get h.2
    refine ⟨by simp [h1], fun i q hq => ?_⟩
    cases i with
    | zero => simp at hq; subst hq; exact ⟨by simp [beqA_eq h.1.1], h.1.2⟩
    | succ i => exact h2 i q (by simpa using hq)
  | [], _ :: _, h => by simp [fitSlots] at h
  | some _ :: _, [], h => by simp [fitSlots] at h
  | none :: _, [], h => by simp [fitSlots] at h
  | some _ :: _, none :: _, h => by simp [fitSlots] at h

theorem ORel.fit {θ : List (Nat × SE)} {n : Nat} {b : Ent} {p : AObj} (h : ORel bs ρ w b (subObj θ p)) (hl : belowObj n p = true) : ORel (bs.take n) (ρ.sub θ) w b p := by
  cases p with
  | cells c ty own g =>
    obtain ⟨vs, tail, h1, h2, h3⟩ := h
    rw [dvl_sub] at h1
    exact ⟨vs, tail, dvl_low n hl h1, h2, h3⟩
  | sym m cap row ty =>
    obtain ⟨e1, e2, e3, e4, e5, e6⟩ := h
    simp only [den_sub] at e1 e2 e3 e4 e5 e6
    exact ⟨e1, e2, e3, e4, e5, e6⟩
  | mp ks vs =>
    obtain ⟨us, es, clock, h1, h2⟩ := h
    rw [dvl_sub] at h1
    exact ⟨us, es, clock, dvl_low n hl h1, h2⟩
  | iter m =>
    obtain ⟨bm, since, h1, h2⟩ := h
    have hmn : m < n := of_decide_eq_true hl
    exact ⟨bm, since, by rw [List.getElem?_take, if_pos hmn]; exact h1, h2⟩
  | siter s pos => exact h
  | dead => trivial

theorem fit_sound {θ : List (Nat × SE)} {h st : ASt} {a : Act} (hf : fit θ h st = true) (hR : RelS δ bs ρ S w0 st a w) (hpc : ∀ p ∈ h.pc, evB (ρ.sub θ) p.1 = p.2) :
    RelS δ (bs.take h.mem.length) (ρ.sub θ) S w0 h a w := by
  simp only [fit, Bool.and_eq_true] at hf
  obtain ⟨h1, h2⟩ := fitSlots_get hf.1
  obtain ⟨h3, h4⟩ := fitMem_get hf.2
  have mine : ∀ p : AObj, (subObj θ p).mine = p.mine := fun p => by cases p <;> rfl
  have live : ∀ p : AObj, Occ (ρ.sub θ) p → Occ ρ (subObj θ p) := fun p hp => by
    cases p with
    | cells c ty own g => trivial
    | sym n cap row ty => show 0 < den ρ (cap.sub θ); rw [den_sub]; exact hp
    | mp ks vs => trivial
    | iter m => trivial
    | siter s pos => trivial
    | dead => exact hp.elim
  have tk : ∀ {i : Nat} {b : Ent}, (bs.take h.mem.length)[i]? = some b → bs[i]? = some b := fun {i b} hb => by
    rw [List.getElem?_take] at hb
    split at hb
    · exact hb
    · cases hb
  refine ⟨by rw [hR.size, h1], fun i v hv => ?_, hR.defers, ⟨?_, ?_, ?_, ?_, hR.mem.keep⟩, hpc⟩
  · obtain ⟨hs, hl⟩ := h2 i v hv
    have := hR.slot i _ hs
    rw [dv_sub] at this
    exact dv_low _ v hl this
  · rw [List.length_take, hR.mem.len]; omega
  · intro i p hp
    obtain ⟨hm, hb⟩ := h4 i p hp
    obtain ⟨b, hb', hr⟩ := hR.mem.rel i _ hm
    refine ⟨b, ?_, hr.fit hb⟩
    rw [List.getElem?_take, if_pos (List.getElem?_eq_some_iff.1 hp).1]
    exact hb'
  · intro i p b hp hmi hb
    obtain ⟨hm, _⟩ := h4 i p hp
    exact hR.mem.own i _ b hm (by rw [mine]; exact hmi) (tk hb)
  · intro i j p q b b' hij hp hq hmi hli hb hb'
    obtain ⟨hm, _⟩ := h4 i p hp
    obtain ⟨hm', _⟩ := h4 j q hq
    exact hR.mem.apart i j _ _ b b' hij hm hm' (by rw [mine]; exact hmi) (live _ hli) (tk hb) (tk hb')

variable {I : Nat → Env → Prop} {L : Env → AV → List AObj → Prop}

theorem mkFacts_sound {θ : List (Nat × SE)} {k : Tree} : ∀ {pcs : List (SE × Bool)}, (mkFacts θ k pcs).holds I L ρ → (∀ p ∈ pcs, evB (ρ.sub θ) p.1 = p.2) ∧ k.holds I L ρ
  | [], h => ⟨(fun p hp => by cases hp), h⟩
  | (c, true) :: r, h => by
    obtain ⟨h1, h2⟩ := h
    obtain ⟨h3, h4⟩ := mkFacts_sound h2
    refine ⟨fun p hp => ?_, h4⟩
    rcases List.mem_cons.1 hp with rfl | hp
    · rw [← evB_sub]; exact h1
    · exact h3 p hp
  | (c, false) :: r, h => by
    obtain ⟨h1, h2⟩ := h
    obtain ⟨h3, h4⟩ := mkFacts_sound h2
    refine ⟨fun p hp => ?_, h4⟩
    rcases List.mem_cons.1 hp with rfl | hp
    · rw [← evB_sub]
      have h5 : ofB (den ρ (c.sub θ) == 0) != 0 := h1
      rw [ofB_bne] at h5
      simpa [evB] using h5
    · exact h3 p hp

theorem wp_loop_nat {c : Code} {Q : Exit → Act → World → Prop} (J : Nat → Act → World → Prop)
    (round : ∀ n a w, J n a w → c.wp P (Exit.then (fun a' w' => ∃ m, m < n ∧ J m a' w') Q) a w) {n : Nat} {a : Act} {w : World} (h0 : J n a w) : (Code.loop c).wp P Q a w := by
  have key : ∀ k m a w, J m a w → m < k → Code.rounds P c Q k a w := by
    intro k
    induction k with
    | zero => intro m a w _ h; omega
    | succ k ih =>
      intro m a w hJ hm
      rw [rounds_succ]
      refine wp_mono (round m a w hJ) fun e a' w' hq => ?_
      cases e with
      | normal => obtain ⟨m', hm', hJ'⟩ := hq; exact ih m' a' w' hJ' (by omega)
      | _ => exact hq
  exact wp_loop_rounds (n + 1) (key (n + 1) n a w h0 (by omega))

end Go.SX

/- Symbolic execution of the model's code, part 11: the theorem. -/
namespace Go.SX
open Go.Proofs.YtnmmomopnaglbaaGreatDoorW.PrintLast
set_option linter.unusedSimpArgs false
set_option linter.unusedVariables false
variable {δ : List Deferred} {P : Program} {S : Nat → Prop} {w0 : World}

/-- A contract's word: of the memory behind it. -/
def Comes (P : Program) (S : Nat → Prop) (w0 : World) (bs : List Ent) (ρ : Env) (f : FuncId) (vs : List Value) (w : World) (v : AV) (mem' : List AObj) : Prop :=
  Calls P f vs.toArray w fun e w' => ∃ ex z, e = .returned z ∧ dv (bs ++ ex) ρ v = some z ∧ RelM (bs ++ ex) ρ S w0 mem' w'
/-- 'N': what is known besides of the letters' slices, of the world before. -/
structure CfgOk (P : Program) (cfg : Cfg) (F : Nat → List Int → Int) (N : (Nat → Prop) → World → Prop) : Prop where
  mixed : P.follows .mixedOrders = true
  names : ∀ f ∈ cfg.ok, ∃ fn, P.funcs[f]? = some fn ∧ (fn.name == "runtime.NumGoroutine") = false ∧ fn.body.isSome = true
  sums : ∀ f args mem out, cfg.sums f args mem = some out → ∀ (S : Nat → Prop) (w0 : World) (bs : List Ent) (ρ : Env) (w : World) (vs : List Value) (v : AV) (mem' : List AObj), N S w0 → ρ.f = F → dvl bs ρ args = some vs → RelM bs ρ S w0 mem w →
    out.pick ρ = some (v, mem') → Comes P S w0 bs ρ f vs w v mem'
  holes : ∀ c st x st', cfg.holes c st = some (x, st') → ∀ (δ : List Deferred) (S : Nat → Prop) (w0 : World) (bs : List Ent) (ρ : Env) (a : Act) (w : World), N S w0 → ρ.f = F → RelS δ bs ρ S w0 st a w →
    ∀ Q : Exit → Act → World → Prop, (∀ (ex : List Ent) (a' : Act) (w' : World), RelS δ (bs ++ ex) ρ S w0 st' a' w' → Q x.conc a' w') → c.wp P Q a w := by intro c st x st' h; cases h

def Task.wp (P : Program) (SW TW : World → Prop) (Q : Exit → Act → World → Prop) (n : Nat) : Task → Act → World → Prop
  | .code c, a, w => c.wp P Q a w
  | .rounds c, a, w => Code.rounds P c Q n a w
  | .ops os l, a, w => wpOps P os Q l a w
  | .draw os ds _ _ _ listed m, a, w => wpTwo P os Q SW TW ds m listed a w
  | .oper os i, a, w => wpOp P os Q i (fun a' w' => Q .normal a' w') a w

theorem run_callFunc {f : FuncId} {fn : Func} (hf : P.funcs[f]? = some fn) (hn : (fn.name == "runtime.NumGoroutine") = false) (hb : fn.body.isSome = true) (args : Array Value) (w : World) :
    (callFunc f args).run P w = .ok (.enter f args) w := by
  have h1 : fn.name ≠ "runtime.NumGoroutine" := by simpa using hn
  obtain ⟨c, hc⟩ := Option.isSome_iff_exists.1 hb
  simp [callFunc, hf, h1, hc]

theorem methA_sound {t : TypeId} {name : String} {f : FuncId} (h : methA P t name = some f) (v : Value) (w : World) (k : Nat) : (method (k + 1) t v name).run P w = .ok (f, v) w := by
  unfold methA at h
  split at h
  · rename_i i hi
    split at h
    · rename_i m hm
      split at h
      · cases h
      · rename_i f' d hne hp hf hu
        cases h
        unfold method
        simp only [Sem.run_bind, typeInfo, hi, run_program, Result.andThen_ok, Sem.run_pure, hm, hp, hf, follow]
        unfold receiverAt
        simp only [Sem.run_bind, run_underlying hu, Result.andThen_ok]
        cases d <;> first | (simp [Place.get]; done) | exact (hne _ rfl).elim | exact (hne _ hu).elim
      · cases h
    · cases h
  · cases h
theorem callA_sound {bs : List Ent} {ρ : Env} {ev : Operand → Option AV} {e : Operand → Value} (hev : ∀ x a, ev x = some a → dv bs ρ a = some (e x)) {o : Oper} {f : FuncId} {args : List AV} (h : callA P ev o.op = some (f, args)) :
    ∃ vs, dvl bs ρ args = some vs ∧ ∀ w, (execOp e o).run P w = (callFunc f vs.toArray).run P w := by
  obtain ⟨dst, op, type, pos, after, guard⟩ := o
  simp only at h
  unfold callA at h
  split at h
  · rename_i c
    split at h
    · rename_i fo hcal
      split at h
      · rename_i g cap hfo
        simp only [Option.map_eq_some_iff, Prod.mk.injEq] at h
        obtain ⟨l, hl, rfl, rfl⟩ := h
        have h1 := evs_sound hev hl
        have h2 := hev _ _ hfo
        simp only [dv, Option.map_eq_some_iff] at h2
        obtain ⟨vs, hvs, h2⟩ := h2
        refine ⟨_, dvl_append h1 (dvl_members cap hvs), fun w => ?_⟩
        have : c.args.map e = (c.args.toList.map e).toArray := by apply Array.ext'; simp
        simp only [execOp, resolve, hcal, ← h2, Deferred.ofValue, pure_bind, invoke, this]
        congr 2
        simp
      · rename_i g first hfo
        simp only [Option.map_eq_some_iff, Prod.mk.injEq] at h
        obtain ⟨l, hl, rfl, rfl⟩ := h
        have h1 := evs_sound hev hl
        have h2 := hev _ _ hfo
        simp only [dv, Option.map_eq_some_iff] at h2
        obtain ⟨vs, hvs, h2⟩ := h2
        refine ⟨_, dvl_append (dvl_members first hvs) h1, fun w => ?_⟩
        have : c.args.map e = (c.args.toList.map e).toArray := by apply Array.ext'; simp
        simp only [execOp, resolve, hcal, ← h2, Deferred.ofValue, pure_bind, invoke, this]
        congr 2
        simp
      · cases h
    · rename_i r name hcal
      split at h
      · rename_i t x hr
        simp only [Option.bind_eq_some_iff, Option.map_eq_some_iff, Prod.mk.injEq] at h
        obtain ⟨g, hg, l, hl, rfl, rfl⟩ := h
        have h1 := evs_sound hev hl
        have h2 := hev _ _ hr
        simp only [dv, Option.map_eq_some_iff] at h2
        obtain ⟨v, hv, h2⟩ := h2
        refine ⟨v :: c.args.toList.map e, by simp only [dvl, hv, h1, Option.bind_some, Option.map_some], fun w => ?_⟩
        obtain ⟨k, hk⟩ : ∃ k, P.types.size + Made.depth = k + 1 := ⟨P.types.size + Made.depth - 1, by have : 0 < Made.depth := by decide
                                                                                                      omega⟩
        have hm := methA_sound hg v w k
        have : c.args.map e = (c.args.toList.map e).toArray := by apply Array.ext'; simp
        simp only [execOp, resolve, hcal, ← h2, pure_bind, invoke, this]
        have ht : List.take c.args.size (List.map e c.args.toList) = List.map e c.args.toList := List.take_of_length_le (by simp)
        simp [callMethod, Sem.run_bind, run_program, hk, hm, ht]
      · cases h
    · cases h
  · cases h

theorem wpOp_swap {ops : Array Oper} {i : Nat} {K : Act → World → Prop} {Q Q' : Exit → Act → World → Prop} {a : Act} {w : World} (h : wpOp P ops Q i K a w) (hQ : ∀ c a w, ¬ Q (.panic c) a w)
    (ho : ∀ a w, Q .outgrown a w → Q' .outgrown a w) : wpOp P ops Q' i K a w := by
  unfold wpOp at *
  split
  · simpa [*] using h
  · rename_i o hoo
    simp only [hoo] at h
    have hl : LetsOut Q → LetsOut Q' := fun ⟨a, w, h⟩ => ⟨a, w, ho a w h⟩
    split
    · rename_i hw
      simp only [hw, if_true] at h
      rcases h with h | ⟨h1, h2⟩
      · left
        unfold Oper.wp at *
        generalize (execOp a.eval o).run P w = r at *
        cases r with
        | ok n w' =>
          cases n <;> simp only [Oper.upon] at h ⊢ <;> first | exact h | skip
          exact Calls.mono h fun e w'' he => by
            cases e with
            | returned v => exact he
            | panicked c => exact absurd he (hQ _ _ _)
            | outgrown => exact hl he
        | halt x w' =>
          cases x <;> simp only [Oper.upon] at h ⊢ <;> first | exact h | exact absurd h (hQ _ _ _)
      · exact .inr ⟨h1, hl h2⟩
    · rename_i hw
      simp only [hw] at h
      exact h

variable {I : Nat → Env → Prop} {L : Env → AV → List AObj → Prop} {cfg : Cfg} {F : Nat → List Int → Int} {N : (Nat → Prop) → World → Prop}

theorem slots_map (args : List AV) (vs : List Value) (k : Nat) {bs : List Ent} {ρ : Env} (h : dvl bs ρ args = some vs) :
    ∀ (i : Nat) v, (args.map some ++ List.replicate k (some (.tuple .nil)))[i]? = some (some v) → dv bs ρ v = some ((vs.toArray ++ Array.replicate k undef).getD i undef) := by
  intro i v hv
  have hl := dvl_length h
  rw [List.getElem?_append] at hv
  simp only [Array.getD_eq_getD_getElem?, Array.getElem?_append, List.size_toArray]
  split at hv
  · rename_i hi
    rw [List.getElem?_map, Option.map_eq_some_iff] at hv
    obtain ⟨x, hx, hv⟩ := hv
    cases hv
    obtain ⟨u, hu, hd⟩ := dvl_get h hx
    simp only [List.length_map] at hi
    rw [if_pos (by omega), List.getElem?_toArray, hu, hd]
    rfl
  · rename_i hi
    simp only [List.length_map, List.getElem?_replicate] at hi hv
    split at hv
    · rename_i hk
      cases hv
      rw [if_neg (by omega)]
      simp only [hl, Array.getElem?_replicate, hk, if_true, Option.getD_some]
      rfl
    · cases hv

theorem RelS.eff {bs ex : List Ent} {ρ : Env} {st : ASt} {a : Act} {w w' : World} {mem' : List AObj} (h : RelS δ bs ρ S w0 st a w) (hm : RelM (bs ++ ex) ρ S w0 mem' w') :
    RelS δ (bs ++ ex) ρ S w0 { st with mem := mem' } a w' :=
  ⟨h.size, fun i v hv => dv_mono ex v (h.slot i v hv), h.defers, hm, h.pc⟩

theorem tryEarly_take {st : ASt} {ops : Array Oper} {ds : List Nat} {m0 m1 : List AObj} {kS : Bool} {listed l' : Array Bool} {i j : Nat} {dst : Option Tmp} {reqs : List SE} {v : AV}
    (h : tryEarly P st ops ds m0 m1 kS listed i = .take j dst reqs v l') : ∃ o, ops[i]? = some o ∧ dst = o.dst ∧ l' = listed.setIfInBounds i true ∧
      ((guardA ops st.slots o = .no ∧ fastB ops listed i = true ∧ v = .tuple .nil) ∨
       (guardA ops st.slots o = .yes ∧ fastB ops listed i = true ∧ pureA P m1 (opd st.slots) o.op = some (reqs, v)) ∨
       (guardA ops st.slots o = .yes ∧ kS = true ∧ takeB .any ops ds listed l' i = true ∧ pureA P m0 (opd st.slots) o.op = some (reqs, v))) := by
  unfold tryEarly at h
  split at h
  · cases h
  · rename_i o ho
    refine ⟨o, ho, ?_⟩
    split at h
    · cases h
    · cases h
    · rename_i hg
      split at h
      · rename_i hc
        cases h
        exact ⟨rfl, rfl, .inl ⟨hg, hc, rfl⟩⟩
      · cases h
    · rename_i hg
      split at h
      · rename_i r v' hp
        split at h
        · rename_i hc
          cases h
          exact ⟨rfl, rfl, .inr (.inl ⟨hg, hc, hp⟩)⟩
        · cases h
      · split at h
        · rename_i hk
          split at h
          · rename_i r v' hp
            split at h
            · rename_i hc
              cases h
              exact ⟨rfl, rfl, .inr (.inr ⟨hg, hk, hc, hp⟩)⟩
            · cases h
          · cases h
        · cases h
theorem tryEarly_split {st : ASt} {ops : Array Oper} {ds : List Nat} {m0 m1 : List AObj} {kS : Bool} {listed : Array Bool} {i d : Nat} {e : SE}
    (h : tryEarly P st ops ds m0 m1 kS listed i = .split d e) : st.slots[d]? = some (some (.bool e)) := by
  unfold tryEarly at h
  split at h
  · cases h
  · rename_i o ho
    split at h
    · cases h
    · rename_i hg
      cases h
      exact guard_sym hg
    · split at h <;> cases h
    · split at h
      · split at h <;> cases h
      · split at h
        · split at h
          · split at h <;> cases h
          · cases h
        · cases h
theorem findEarly_take {st : ASt} {ops : Array Oper} {ds : List Nat} {m0 m1 : List AObj} {kS : Bool} {listed l' : Array Bool} {j : Nat} {dst : Option Tmp} {reqs : List SE} {v : AV} :
    ∀ {rs : List Nat}, findEarly P st ops ds m0 m1 kS listed rs = .take j dst reqs v l' → ∃ i, i ∈ rs ∧ tryEarly P st ops ds m0 m1 kS listed i = .take j dst reqs v l'
  | [], h => by cases h
  | i :: r, h => by
    unfold findEarly at h
    split at h
    · obtain ⟨k, hk, h1⟩ := findEarly_take h
      exact ⟨k, List.mem_cons_of_mem _ hk, h1⟩
    · exact ⟨i, List.mem_cons_self .., h⟩
theorem findEarly_split {st : ASt} {ops : Array Oper} {ds : List Nat} {m0 m1 : List AObj} {kS : Bool} {listed : Array Bool} {d : Nat} {e : SE} :
    ∀ {rs : List Nat}, findEarly P st ops ds m0 m1 kS listed rs = .split d e → ∃ i, tryEarly P st ops ds m0 m1 kS listed i = .split d e
  | [], h => by cases h
  | i :: r, h => by
    unfold findEarly at h
    split at h
    · exact findEarly_split h
    · exact ⟨i, h⟩

/-- How the letters and the blocks behind a piece of code stand to those before it. -/
def Then (top : Option (List Nat)) (ρ ρ' : Env) (bs bs' : List Ent) : Prop :=
  match top with
  | none => ρ' = ρ ∧ ∃ e, bs' = bs ++ e
  | some ks => ∀ k ∈ ks, ρ'.v (1000 + k) = ρ.v (1000 + k)
theorem Then.refl (top : Option (List Nat)) (ρ : Env) (bs : List Ent) : Then top ρ ρ bs bs := by
  cases top with
  | none => exact ⟨rfl, [], by simp⟩
  | some ks => exact fun _ _ => rfl
theorem Then.trans {top : Option (List Nat)} {ρ ρ1 ρ2 : Env} {bs bs1 bs2 : List Ent} (h : Then top ρ ρ1 bs bs1) (h' : Then top ρ1 ρ2 bs1 bs2) : Then top ρ ρ2 bs bs2 := by
  cases top with
  | none =>
    obtain ⟨rfl, e, rfl⟩ := h
    obtain ⟨rfl, e', rfl⟩ := h'
    exact ⟨rfl, e ++ e', by simp⟩
  | some ks => exact fun k hk => (h' k hk).trans (h k hk)
theorem Then.of_none {top : Option (List Nat)} {ρ ρ' : Env} {bs bs' : List Ent} (h : Then none ρ ρ' bs bs') : Then top ρ ρ' bs bs' := by
  cases top with
  | none => exact h
  | some ks => obtain ⟨rfl, _⟩ := h; exact fun _ _ => rfl
theorem subV_low {θ : List (Nat × SE)} {i : Nat} (hi : 1000 ≤ i) (h : θ.all (fun p => p.1 < 1000) = true) : subV θ i = .var i := by
  induction θ with
  | nil => rfl
  | cons p r ih =>
    simp only [List.all_cons, Bool.and_eq_true, decide_eq_true_eq] at h
    obtain ⟨j, e⟩ := p
    simp only [subV]
    rw [if_neg (by simp only at h; omega)]
    exact ih h.2
theorem sub_v {sp : LoopSpec} {st : ASt} {θ : List (Nat × SE)} (hθ : bindAll sp st = θ) (hl : lowKeys θ = true) (ρ : Env) {k : Nat} (hk : k ≠ sp.key) : (ρ.sub θ).v (1000 + k) = ρ.v (1000 + k) := by
  subst hθ
  show den ρ (subV _ (1000 + k)) = _
  simp only [bindAll] at hl ⊢
  simp only [lowKeys] at hl
  simp only [subV]
  rw [if_neg (by omega), subV_low (by omega) hl]
  rfl

/-! ### a region by a table -/
section
variable {ρ : Env}
theorem knownAll_nil : ∀ {reqs : List SE}, knownAll [] reqs = true → ∀ c ∈ reqs, evB ρ c = true
  | [], _, c, hc => by cases hc
  | x :: r, h, c, hc => by
    cases x with
    | lit n =>
      simp only [knownAll, Bool.and_eq_true] at h
      rcases List.mem_cons.1 hc with rfl | hc
      · exact h.1
      · exact knownAll_nil h.2 c hc
    | _ => simp [knownAll, findPc] at h
theorem nilP_eq {l : List (SE × Bool)} (h : nilP l = true) : l = [] := by cases l <;> first | rfl | cases h
theorem insT_mem {e : TE} : ∀ {acc acc' : List TE}, insT e acc = some acc' → (∀ x ∈ acc, x ∈ acc') ∧ e ∈ acc'
  | [], acc', h => by cases h; exact ⟨(fun x hx => by cases hx), List.mem_singleton.2 rfl⟩
  | x :: r, acc', h => by
    simp only [insT] at h
    split at h
    · rename_i hl
      split at h
      · rename_i hc
        cases h
        simp only [Bool.and_eq_true, beq_iff_eq] at hc
        obtain ⟨⟨⟨⟨⟨⟨⟨h0, h1⟩, h2⟩, h3⟩, h4⟩, h5⟩, h6⟩, h8⟩ := hc
        have hx : e = x := by
          obtain ⟨y1, k1, m1, l1, s1⟩ := e
          obtain ⟨y2, k2, m2, l2, s2⟩ := x
          obtain ⟨sl1, me1, pc1⟩ := s1
          obtain ⟨sl2, me2, pc2⟩ := s2
          simp only at *
          have e1 := beqSl_eq h1
          have e2 := beqM_eq h2
          have e3 := nilP_eq h3
          have e4 := nilP_eq h4
          have e6 := Nat.eq_of_beq_eq_true h6
          have e7 : l2 = l1 := Array.ext' (beqBs_eq h0)
          have e8 := Nat.eq_of_beq_eq_true h8
          subst e1 e2 e3 e4 e6 e7 e8 h5
          rfl
        exact ⟨fun _ h => h, by rw [hx]; exact List.mem_cons_self ..⟩
      · cases h
    · split at h
      · rename_i r' hr
        cases h
        obtain ⟨h1, h2⟩ := insT_mem hr
        exact ⟨fun y hy => (List.mem_cons.1 hy).elim (fun e => by rw [e]; exact List.mem_cons_self ..) (fun hy => List.mem_cons_of_mem _ (h1 y hy)), List.mem_cons_of_mem _ h2⟩
      · cases h
theorem stepsT_mem {ops : Array Oper} {ds : List Nat} {m0 m1 : List AObj} {step : Nat → ASt → Option ASt} {e : TE} : ∀ {rs : List Nat} {acc acc' : List TE}, stepsT P ops ds m0 m1 step e rs acc = some acc' → (∀ x ∈ acc, x ∈ acc') ∧
    ∀ i ∈ rs, ∃ m st' e', e.m = m + 1 ∧ step i e.st = some st' ∧ (keptM m1 st'.mem && (ds.contains i || keptM m0 st'.mem)) = true ∧ satT P ops ds m0 m1 (keptM m0 st'.mem) m (e.l.setIfInBounds i true) st' = some e' ∧ e' ∈ acc'
  | [], acc, acc', h => by cases h; exact ⟨fun _ h => h, fun i hi => by cases hi⟩
  | i :: r, acc, acc', h => by
    simp only [stepsT] at h
    split at h
    · cases h
    · rename_i m hm
      split at h
      · cases h
      · rename_i st' hst
        simp only [forceSt_eq, forceN_eq, forceB_eq] at h
        split at h
        · rename_i hc
          split at h
          · cases h
          · rename_i e' hsat
            split at h
            · cases h
            · rename_i acc1 hins
              obtain ⟨h1, h2⟩ := insT_mem hins
              obtain ⟨h3, h4⟩ := stepsT_mem h
              refine ⟨fun x hx => h3 x (h1 x hx), fun j hj => ?_⟩
              rcases List.mem_cons.1 hj with rfl | hj
              · exact ⟨m, st', e', hm, hst, hc, hsat, h3 _ h2⟩
              · exact h4 j hj
        · cases h
theorem nextT_mem {ops : Array Oper} {ds : List Nat} {m0 m1 : List AObj} {step : Nat → ASt → Option ASt} : ∀ {es acc acc' : List TE}, nextT P ops ds m0 m1 step es acc = some acc' → (∀ x ∈ acc, x ∈ acc') ∧
    ∀ e ∈ es, (Region.ready .any ops e.l = [] ∧ e ∈ acc') ∨ (Region.ready .any ops e.l ≠ [] ∧ ∀ i ∈ Region.ready .any ops e.l, ∃ m st' e', e.m = m + 1 ∧ step i e.st = some st' ∧ (keptM m1 st'.mem && (ds.contains i || keptM m0 st'.mem)) = true ∧
      satT P ops ds m0 m1 (keptM m0 st'.mem) m (e.l.setIfInBounds i true) st' = some e' ∧ e' ∈ acc')
  | [], acc, acc', h => by cases h; exact ⟨fun _ h => h, fun i hi => by cases hi⟩
  | e :: r, acc, acc', h => by
    simp only [nextT] at h
    split at h
    · rename_i hr
      split at h
      · cases h
      · rename_i acc1 hins
        obtain ⟨h1, h2⟩ := insT_mem hins
        obtain ⟨h3, h4⟩ := nextT_mem h
        refine ⟨fun x hx => h3 x (h1 x hx), fun x hx => ?_⟩
        rcases List.mem_cons.1 hx with rfl | hx
        · exact .inl ⟨hr, h3 _ h2⟩
        · exact h4 x hx
    · rename_i hne
      split at h
      · cases h
      · rename_i acc1 hst
        obtain ⟨h1, h2⟩ := stepsT_mem hst
        obtain ⟨h3, h4⟩ := nextT_mem h
        refine ⟨fun x hx => h3 x (h1 x hx), fun x hx => ?_⟩
        rcases List.mem_cons.1 hx with rfl | hx
        · refine .inr ⟨hne, fun i hi => ?_⟩
          obtain ⟨m, st', e', g1, g2, g3, g4, g5⟩ := h2 i hi
          exact ⟨m, st', e', g1, g2, g3, g4, h3 _ g5⟩
        · exact h4 x hx
theorem satT_sound {ops : Array Oper} {ds : List Nat} {m0 m1 : List AObj} {kS : Bool} {Q : Exit → Act → World → Prop} (hP : ∀ c a w, ¬ Q (.panic c) a w) {bs0 e0 : List Ent} {w : World} (hTw : MRel bs0 ρ m1 w) (hSw : kS = true → MRel bs0 ρ m0 w) :
    ∀ {m : Nat} {listed : Array Bool} {st : ASt} {e : TE}, satT P ops ds m0 m1 kS m listed st = some e → e.kS = kS ∧ ∀ {a : Act}, RelS δ (bs0 ++ e0) ρ S w0 st a w →
      (∀ a', RelS δ (bs0 ++ e0) ρ S w0 e.st a' w → wpTwo P ops Q (fun w' => MRel bs0 ρ m0 w') (fun w' => MRel bs0 ρ m1 w') ds e.m e.l a' w) → wpTwo P ops Q (fun w' => MRel bs0 ρ m0 w') (fun w' => MRel bs0 ρ m1 w') ds m listed a w
  | 0, listed, st, e, h => by
    simp only [satT] at h
    split at h
    · cases h; exact ⟨rfl, fun hR hK => hK _ hR⟩
    · cases h
  | m + 1, listed, st, e, h => by
    simp only [satT] at h
    split at h
    · cases h; exact ⟨rfl, fun hR hK => hK _ hR⟩
    · split at h
      · rename_i j dst reqs v l' hfe
        split at h
        · rename_i hkn
          rw [forceA_eq] at h
          obtain ⟨i, hir, hte⟩ := findEarly_take hfe
          obtain ⟨o, ho, rfl, rfl, hcase⟩ := tryEarly_take hte
          obtain ⟨hk, ih⟩ := satT_sound hP hTw hSw h
          refine ⟨hk, fun {a} hR hK => ?_⟩
          have hreq := knownAll_nil (ρ := ρ) hkn
          have next : ∀ {z : Value}, dv (bs0 ++ e0) ρ v = some z → wpTwo P ops Q (fun w' => MRel bs0 ρ m0 w') (fun w' => MRel bs0 ρ m1 w') ds m (listed.setIfInBounds i true) (a.put o.dst z) w := fun {z} hz => ih (hR.put o.dst hz) hK
          rcases hcase with ⟨hg, hc, rfl⟩ | ⟨hg, hc, hp⟩ | ⟨hg, hk, hc, hp⟩
          · exact wpTwo_fast ho hc hir (fun c a w h => absurd h (hP _ _ _)) (.inr ⟨guard_no hR hg, rfl⟩) hTw (next rfl)
          · obtain ⟨z, hz, _⟩ := pureA_sound (P := P) (opd_sound hR.slot) (hTw.mono e0) hp hreq
            refine wpTwo_fast ho hc hir (fun c a w h => absurd h (hP _ _ _)) (.inl ⟨guard_yes hR hg, fun w' hw' => ?_⟩) hTw (next hz)
            obtain ⟨z', hz', hrun⟩ := pureA_sound (P := P) (opd_sound hR.slot) (MRel.mono e0 hw') hp hreq
            rw [hz] at hz'; cases hz'
            exact hrun
          · have hSw' := hSw hk
            obtain ⟨z, hz, _⟩ := pureA_sound (P := P) (opd_sound hR.slot) (hSw'.mono e0) hp hreq
            refine wpTwo_take ho rfl hc (fun c a w h => absurd h (hP _ _ _)) (.inl ⟨guard_yes hR hg, fun w' hw' => ?_⟩) hSw' (next hz)
            obtain ⟨z', hz', hrun⟩ := pureA_sound (P := P) (opd_sound hR.slot) (MRel.mono e0 hw') hp hreq
            rw [hz] at hz'; cases hz'
            exact hrun
        · cases h
      · cases h
      · cases h; exact ⟨rfl, fun hR hK => hK _ hR⟩
theorem tblT_sound {ops : Array Oper} {ds : List Nat} {m0 m1 : List AObj} {step : Nat → ASt → Option ASt} {Q : Exit → Act → World → Prop} (hP : ∀ c a w, ¬ Q (.panic c) a w) {bs0 : List Ent} {stf : ASt}
    (hstep : ∀ i st st', step i st = some st' → ∀ e0 a w (K : Act → World → Prop), RelS δ (bs0 ++ e0) ρ S w0 st a w → (∀ e1 a' w', RelS δ (bs0 ++ e1) ρ S w0 st' a' w' → K a' w') → wpOp P ops Q i K a w)
    (hK : ∀ e0 a w, RelS δ (bs0 ++ e0) ρ S w0 stf a w → Q .normal a w) :
    ∀ {f : Nat} {es : List TE}, tblT P ops ds m0 m1 step f es = some stf → ∀ e ∈ es, ∀ e0 a w, RelS δ (bs0 ++ e0) ρ S w0 e.st a w → MRel bs0 ρ m1 w → (e.kS = true → MRel bs0 ρ m0 w) → ∀ {w1 : World}, MRel bs0 ρ m0 w1 →
      wpTwo P ops Q (fun w' => MRel bs0 ρ m0 w') (fun w' => MRel bs0 ρ m1 w') ds e.m e.l a w
  | 0, es, h => by cases h
  | f + 1, es, h => by
    intro e he e0 a w hR hT hS w1 hM0
    simp only [tblT] at h
    split at h
    · rename_i st hd
      cases h
      unfold doneT at hd
      split at hd
      · rename_i e1
        split at hd
        · rename_i hr
          cases hd
          simp only [List.mem_singleton] at he
          subst he
          have hq := hK e0 a w hR
          cases hm : e.m with
          | zero => exact ⟨hr, hq⟩
          | succ m => exact ⟨fun _ => hq, by rw [hr]; simp⟩
        · cases hd
      · cases hd
    · split at h
      · cases h
      · rename_i es' hn
        obtain ⟨_, hall⟩ := nextT_mem hn
        rcases hall e he with ⟨_, hin⟩ | ⟨hne, hin⟩
        · exact tblT_sound hP hstep hK h e hin e0 a w hR hT hS hM0
        · have hne' : ∃ i, i ∈ Region.ready .any ops e.l := by
            cases hr : Region.ready .any ops e.l with
            | nil => exact absurd hr hne
            | cons i r => exact ⟨i, List.mem_cons_self ..⟩
          obtain ⟨i0, hi0⟩ := hne'
          obtain ⟨m, _, _, hm, _⟩ := hin i0 hi0
          rw [hm]
          refine ⟨fun h0 => absurd h0 hne, fun i hi => ?_⟩
          obtain ⟨m', st', e', hm', hst, hc, hsat, hmem⟩ := hin i hi
          rw [hm] at hm'
          cases hm'
          simp only [Bool.and_eq_true, Bool.or_eq_true] at hc
          refine hstep i e.st st' hst e0 a w _ hR fun e1 a' w' hR' => ?_
          have hTw' : MRel bs0 ρ m1 w' := kept_sound hc.1 hT hR'.mem.rel
          have hSw' : keptM m0 st'.mem = true → MRel bs0 ρ m0 w' := fun h0 => kept_sound h0 hM0 hR'.mem.rel
          obtain ⟨hk, hs⟩ := satT_sound (Q := Q) (e0 := e1) hP hTw' hSw' hsat
          refine ⟨⟨fun hnot _ => ?_, fun _ => hTw'⟩, hs hR' fun a'' hR'' => tblT_sound hP hstep hK h e' hmem e1 a'' w' hR'' hTw' (by rw [hk]; exact hSw') hM0⟩
          rcases hc.2 with h0 | h0
          · exact absurd (by simpa using h0) hnot
          · exact hSw' h0
theorem endA_sound {bs0 e0 : List Ent} {st : ASt} {a : Act} {w : World} {I : Nat → Env → Prop} {st' : ASt} {v : AV} {m : List AObj} (hR : RelS δ (bs0 ++ e0) ρ S w0 st a w) (hd : decoS (some (v, m)) = some st')
    (hT : (endA bs0.length st).holds I (fun _ v' m' => v' = v ∧ m' = m) ρ) : ∃ e1, RelS δ (bs0 ++ e1) ρ S w0 st' a w := by
  unfold endA at hT
  split at hT
  · rename_i l hpc hl
    simp only at hT
    split at hT
    · rename_i hg
      obtain ⟨rfl, rfl⟩ := hT
      have hsl := allSome_map hl
      have hvals : dvl (bs0 ++ e0) ρ l = some (a.tmps.toList) := by
        refine dvl_of_get ?_ fun i b hb => ?_
        · have := hR.size
          rw [hsl] at this
          simpa using this
        · have h1 := hR.slot i b (by rw [hsl, List.getElem?_map, hb]; rfl)
          rw [h1]
          have hi : i < a.tmps.size := by
            have := hR.size
            rw [hsl] at this
            have hlt := (List.getElem?_eq_some_iff.1 hb).1
            simp at this
            omega
          simp [hi]
      have hz : dv (bs0 ++ e0) ρ (.tuple (ofList l)) = some (.tuple a.tmps.toList.toArray) := by simp only [dv, dvs_ofList, hvals, Option.map_some]
      obtain ⟨ex, h1, h2⟩ := gc_sound hg hz hR.mem bs0 e0 rfl rfl
      simp only [AV.ren, decoS, Option.some.injEq] at hd
      subst hd
      simp only [AV.ren, dv, Option.map_eq_some_iff] at h1
      obtain ⟨vs, hvs, hve⟩ := h1
      have hve' : vs = a.tmps.toList := by
        have := Value.tuple.inj hve
        have := congrArg Array.toList this
        simpa using this
      subst hve'
      have hml := dvl_members _ hvs
      have hlen := dvl_length hml
      refine ⟨ex, (by rw [List.length_map, ← hlen, Array.length_toList]), fun i b hb => ?_, hR.defers, h2, fun p hp => by cases hp⟩
      rw [List.getElem?_map, Option.map_eq_some_iff] at hb
      obtain ⟨c, hc, hcb⟩ := hb
      cases hcb
      obtain ⟨z, hz1, hz2⟩ := dvl_get hml hc
      rw [hz2]
      rw [Array.getElem?_toList] at hz1
      simp [Array.getD_eq_getD_getElem?, hz1]
    · exact hT.elim
  · exact hT.elim
end

theorem run_sound (hcfg : CfgOk P cfg F N) (hN : N S w0) : ∀ (n : Nat) {I : Nat → Env → Prop} {L : Env → AV → List AObj → Prop} (δ : List Deferred) (top : Option (List Nat)) (t : Task) (st : ASt) (K : AExit → ASt → Tree) (bs : List Ent) (ρ : Env) (a : Act) (w : World) (Q : Exit → Act → World → Prop) (SW TW : World → Prop),
    RelS δ bs ρ S w0 st a w → ρ.f = F → (run P cfg n top t st K).holds I L ρ →
    (∀ (ρ' : Env) (ex : AExit) (bs' : List Ent) (st' : ASt) (a' : Act) (w' : World), Then top ρ ρ' bs bs' → ρ'.f = F → RelS δ bs' ρ' S w0 st' a' w' → (K ex st').holds I L ρ' → Q ex.conc a' w') →
    (∀ c a w, ¬ Q (.panic c) a w) →
    (∀ ops ds m0 m1 kS l m, t = .draw ops ds m0 m1 kS l m → ∃ bs0 e w1, bs = bs0 ++ e ∧ SW = (fun w' => MRel bs0 ρ m0 w') ∧ TW = (fun w' => MRel bs0 ρ m1 w') ∧ MRel bs0 ρ m0 w1 ∧ MRel bs0 ρ m1 w1 ∧ TW w ∧ (kS = true → SW w)) →
    t.wp P SW TW Q n a w := by
  intro n
  induction n with
  | zero =>
    intro I L δ top t st K bs ρ a w Q SW TW _ _ hT _ _ _
    cases t <;> exact hT.elim
  | succ n ih =>
    intro I L δ top t st K bs ρ a w Q SW TW hR hρ hT hK hP hD
    cases t with
    | code c =>
      show c.wp P Q a w
      have hrefl := Then.refl top ρ bs
      cases c with
      | skip => exact wp_skip (hK ρ .normal bs st a w hrefl hρ hR (by simpa [run] using hT))
      | label l => exact wp_label (hK ρ .normal bs st a w hrefl hρ hR (by simpa [run] using hT))
      | ret => exact wp_ret (hK ρ .ret bs st a w hrefl hρ hR (by simpa [run] using hT))
      | exit id => exact wp_exit (hK ρ (.exit id) bs st a w hrefl hρ hR (by simpa [run] using hT))
      | seq x y =>
        simp only [run] at hT
        refine wp_seq (ih δ top (.code x) st _ bs ρ a w _ (fun _ => True) (fun _ => True) hR hρ hT ?_ (fun c a w h => hP c a w h) (fun _ _ _ _ _ _ _ h => by cases h))
        intro ρ' ex bs' st' a' w' hx hf hR' hT'
        cases ex with
        | normal =>
          exact ih δ top (.code y) st' K bs' ρ' a' w' Q (fun _ => True) (fun _ => True) hR' hf hT' (fun ρ2 ex2 bs2 st2 a2 w2 hx2 => hK ρ2 ex2 bs2 st2 a2 w2 (hx.trans hx2)) hP (fun _ _ _ _ _ _ _ h => by cases h)
        | exit id => exact hK ρ' (.exit id) bs' st' a' w' hx hf hR' hT'
        | ret => exact hK ρ' .ret bs' st' a' w' hx hf hR' hT'
      | cond c x y =>
        simp only [run] at hT
        split at hT
        · rename_i e he
          have he' := boolOf_some he
          have hc := opd_sound hR.slot c _ he'
          simp only [dv, Option.some.injEq] at hc
          obtain ⟨st', hR', e1, e2, hT'⟩ := mkIte_sound hR hT
          refine wp_cond hc.symm ?_
          have := ih δ top (.code (if evB ρ e = true then x else y)) st' K bs ρ a w Q (fun _ => True) (fun _ => True) hR' hρ hT' hK hP (fun _ _ _ _ _ _ _ h => by cases h)
          exact this
        · exact hT.elim
      | block id c =>
        simp only [run] at hT
        split at hT
        · rename_i xh sth hho
          exact hcfg.holes _ _ _ _ hho δ S w0 bs ρ a w hN hρ hR Q fun ex a' w' hR2 => hK ρ xh (bs ++ ex) sth a' w' (Then.of_none ⟨rfl, ex, rfl⟩) hρ hR2 hT
        refine wp_block (ih δ top (.code c) st _ bs ρ a w _ (fun _ => True) (fun _ => True) hR hρ hT ?_ (fun c a w h => hP c a w h) (fun _ _ _ _ _ _ _ h => by cases h))
        intro ρ' ex bs' st' a' w' hx hf hR' hT'
        cases ex with
        | normal => exact hK ρ' .normal bs' st' a' w' hx hf hR' hT'
        | ret => exact hK ρ' .ret bs' st' a' w' hx hf hR' hT'
        | exit id' =>
          show if id' = id then Q .normal a' w' else Q (.exit id') a' w'
          simp only at hT'
          split at hT'
          · rename_i he; rw [if_pos he]; exact hK ρ' .normal bs' st' a' w' hx hf hR' hT'
          · rename_i he; rw [if_neg he]; exact hK ρ' (.exit id') bs' st' a' w' hx hf hR' hT'
      | scope c =>
        simp only [run] at hT
        refine wp_scope_straight (ih δ top (.code c) st K bs ρ a w _ (fun _ => True) (fun _ => True) hR hρ hT ?_ (fun c a w h => hP c a w h) (fun _ _ _ _ _ _ _ h => by cases h))
        intro ρ' ex bs' st' a' w' hx hf hR' hT'
        have := hK ρ' ex bs' st' a' w' hx hf hR' hT'
        cases ex <;> exact this
      | region id ops draw =>
        cases draw with
        | false =>
          simp only [run, forceS_eq] at hT
          have := ih δ none (.ops ops (List.range ops.size)) st K bs ρ a w Q (fun _ => True) (fun _ => True) hR hρ hT (fun ρ' ex bs' st' a' w' hx => hK ρ' ex bs' st' a' w' hx.of_none) hP (fun _ _ _ _ _ _ _ h => by cases h)
          exact wp_region this
        | true =>
          simp only [run, forceS_eq] at hT
          split at hT
          · rename_i xh sth hho
            exact hcfg.holes _ _ _ _ hho δ S w0 bs ρ a w hN hρ hR Q fun ex a' w' hR2 => hK ρ xh (bs ++ ex) sth a' w' (Then.of_none ⟨rfl, ex, rfl⟩) hρ hR2 hT
          have hR' : RelS δ bs ρ S w0 st a { w with drawn := w.drawn + 1 } := ⟨hR.size, hR.slot, hR.defers, hR.mem.drew, hR.pc⟩
          have hm1 := strike_sound (guessS cfg.wr P st.mem ops.toList st.slots ++ (if top.isSome = true then hintOf id cfg.hints else [])) hR'.mem.rel
          split at hT
          · rename_i stf hst
            split at hst
            · unfold startT at hst
              split at hst
              · cases hst
              · rename_i e hsat
                have hm0 := hR'.mem.rel
                obtain ⟨hk, hs⟩ := satT_sound (Q := Q) (bs0 := bs) (e0 := []) hP hm1 (fun _ => hm0) hsat
                refine wp_region_two hcfg.mixed (hs (by rw [List.append_nil]; exact hR') fun a' hRa => ?_)
                refine tblT_sound (bs0 := bs) hP ?_ ?_ hst e (List.mem_singleton.2 rfl) [] a' _ hRa hm1 (fun _ => hm0) hm0
                · intro i st1 st2 hs12 e0 a1 w1 Kw hR1 hKw
                  obtain ⟨v, m, hone⟩ : ∃ v m, (run P cfg n none (.oper ops i) st1 (endK st.mem.length)).one = some (v, m) := by
                    cases ho : (run P cfg n none (.oper ops i) st1 (endK st.mem.length)).one with
                    | none => rw [ho] at hs12; cases hs12
                    | some p => exact ⟨p.1, p.2, rfl⟩
                  rw [hone] at hs12
                  have hhold := one_holds (ρ := ρ) (I := fun _ _ => True) hone
                  refine wpOp_swap (Q := Exit.then Kw Q) (ih δ none (.oper ops i) st1 _ (bs ++ e0) ρ a1 w1 (Exit.then Kw Q) (fun _ => True) (fun _ => True) hR1 hρ hhold ?_ (fun c a w h => hP c a w h) (fun _ _ _ _ _ _ _ h => by cases h)) (fun c a w h => hP c a w h) (fun a w h => h)
                  intro ρ' ex bs' st' a2 w2 hx hf hR2 hT2
                  obtain ⟨rfl, e1, hbs'⟩ := hx
                  cases ex with
                  | normal =>
                    have hbs2 : bs' = bs ++ (e0 ++ e1) := by rw [hbs', List.append_assoc]
                    subst hbs2
                    have hlen : st.mem.length = bs.length := hR.mem.len.symm
                    simp only [endK, hlen] at hT2
                    obtain ⟨e2, hR3⟩ := endA_sound hR2 hs12 hT2
                    exact hKw e2 _ _ hR3
                  | exit id => exact hT2.elim
                  | ret => exact hT2.elim
                · intro e0 a1 w1 hR1
                  exact hK ρ .normal (bs ++ e0) stf a1 w1 (Then.of_none ⟨rfl, e0, rfl⟩) hρ hR1 hT
            · cases hst
          · have := ih δ none _ st K bs ρ a { w with drawn := w.drawn + 1 } Q (fun w' => MRel bs ρ st.mem w') (fun w' => MRel bs ρ (strike st.mem (guessS cfg.wr P st.mem ops.toList st.slots ++ (if top.isSome = true then hintOf id cfg.hints else []))) w') hR' hρ hT (fun ρ' ex bs' st' a' w' hx => hK ρ' ex bs' st' a' w' hx.of_none) hP
              (fun ops' ds m0 m1 kS l m he => by
                simp only [Task.draw.injEq] at he
                obtain ⟨rfl, rfl, rfl, rfl, rfl, rfl, rfl⟩ := he
                exact ⟨bs, [], _, by simp, rfl, rfl, hR'.mem.rel, hm1, hm1, fun _ => hR'.mem.rel⟩)
            exact wp_region_two hcfg.mixed this
      | loop c =>
        simp only [run] at hT
        split at hT
        · rename_i ks sp hsp
          simp only [Option.bind_eq_some_iff] at hsp
          obtain ⟨ks', rfl, sp', _, hsp⟩ := hsp
          split at hsp
          · cases hsp
          · rename_i hnot
            cases hsp
            have hne : ∀ k ∈ ks, k ≠ sp.key := fun k hk he => hnot (by rw [← he]; simpa using hk)
            split at hT
            · rename_i hfit
              simp only [Bool.and_eq_true] at hfit
              obtain ⟨hpc, hT⟩ := mkFacts_sound hT
              obtain ⟨hI, hbody⟩ := hT
              generalize hh : headOf sp st = h at *
              generalize hθ : bindAll sp st = θ at *
              let J : Nat → Act → World → Prop := fun m a w => ∃ (ρ' : Env) (bs' : List Ent), ρ'.f = F ∧ I sp.key ρ' ∧ RelS δ bs' ρ' S w0 h a w ∧ m = (ρ'.v (1000 + sp.key)).toNat ∧ ∀ k ∈ ks, ρ'.v (1000 + k) = ρ.v (1000 + k)
              refine wp_loop_nat J (n := ((ρ.sub θ).v (1000 + sp.key)).toNat) ?_ ⟨ρ.sub θ, _, hρ, hI, fit_sound hfit.1 hR hpc, rfl, fun k hk => sub_v hθ hfit.2 ρ (hne k hk)⟩
              rintro m a1 w1 ⟨ρ1, bs1, hf1, hI1, hR1, rfl, hz1⟩
              refine ih δ (some (sp.key :: ks)) (.code c) h _ bs1 ρ1 a1 w1 _ (fun _ => True) (fun _ => True) hR1 hf1 (hbody ρ1 (hf1.trans hρ.symm) hI1) ?_ (fun c a w h => hP c a w h) (fun _ _ _ _ _ _ _ h => by cases h)
              intro ρ' ex bs' st' a' w' hx hf hR' hT'
              have hout : Then (some ks) ρ ρ' bs bs' := fun k hk => (hx k (List.mem_cons_of_mem _ hk)).trans (hz1 k hk)
              cases ex with
              | normal =>
                simp only at hT'
                split at hT'
                · rename_i hfit'
                  simp only [Bool.and_eq_true] at hfit'
                  obtain ⟨hpc', hT'⟩ := mkFacts_sound hT'
                  obtain ⟨hI', hlt⟩ := hT'
                  rw [hx sp.key (List.mem_cons_self ..)] at hlt
                  exact ⟨_, hlt, ρ'.sub (bindAll sp st'), _, hf, hI', fit_sound hfit'.1 hR' hpc', rfl, fun k hk => (sub_v rfl hfit'.2 ρ' (hne k hk)).trans (hout k hk)⟩
                · exact hT'.elim
              | exit id => exact hK ρ' (.exit id) bs' st' a' w' hout hf hR' hT'
              | ret => exact hK ρ' .ret bs' st' a' w' hout hf hR' hT'
            · exact hT.elim
        · have := ih δ top (.rounds c) st K bs ρ a w Q (fun _ => True) (fun _ => True) hR hρ hT hK hP (fun _ _ _ _ _ _ _ h => by cases h)
          exact wp_loop_rounds n this
      | rangeFunc f p x y => simp only [run] at hT; exact hT.elim
      | goto l => simp only [run] at hT; exact hT.elim
      | refuse why => simp only [run] at hT; exact hT.elim
    | rounds c =>
      simp only [run] at hT
      show c.wp P (Exit.then (Code.rounds P c Q n) Q) a w
      refine ih δ top (.code c) st _ bs ρ a w _ (fun _ => True) (fun _ => True) hR hρ hT ?_ (fun c a w h => hP c a w h) (fun _ _ _ _ _ _ _ h => by cases h)
      intro ρ' ex bs' st' a' w' hx hf hR' hT'
      cases ex with
      | normal =>
        exact ih δ top (.rounds c) st' K bs' ρ' a' w' Q (fun _ => True) (fun _ => True) hR' hf hT' (fun ρ2 ex2 bs2 st2 a2 w2 hx2 => hK ρ2 ex2 bs2 st2 a2 w2 (hx.trans hx2)) hP (fun _ _ _ _ _ _ _ h => by cases h)
      | exit id => exact hK ρ' (.exit id) bs' st' a' w' hx hf hR' hT'
      | ret => exact hK ρ' .ret bs' st' a' w' hx hf hR' hT'
    | ops os l =>
      cases l with
      | nil =>
        simp only [run] at hT
        exact hK ρ .normal bs st a w (Then.refl _ _ _) hρ hR hT
      | cons i r =>
        simp only [run] at hT
        show wpOps P os Q (i :: r) a w
        rw [wpOps_cons]
        refine wpOp_swap (Q := Exit.then (wpOps P os Q r) Q) (ih δ none (.oper os i) st _ bs ρ a w (Exit.then (wpOps P os Q r) Q) (fun _ => True) (fun _ => True) hR hρ hT ?_ (fun c a w h => hP c a w h) (fun _ _ _ _ _ _ _ h => by cases h)) (fun c a w h => hP c a w h) (fun a w h => h)
        intro ρ' ex bs' st' a' w' hx hf hR' hT'
        cases ex with
        | normal =>
          exact ih δ none (.ops os r) st' K bs' ρ' a' w' Q (fun _ => True) (fun _ => True) hR' hf hT' (fun ρ2 ex2 bs2 st2 a2 w2 hx2 => hK ρ2 ex2 bs2 st2 a2 w2 (hx.trans hx2).of_none) hP (fun _ _ _ _ _ _ _ h => by cases h)
        | exit id => exact hT'.elim
        | ret => exact hT'.elim
    | draw os ds m0 m1 kS listed m =>
      obtain ⟨bs0, e0, w1, hbs, hSW, hTW, hM0, hM1, hTw, hSk⟩ := hD _ _ _ _ _ _ _ rfl
      have hPQ : ∀ (dst : Option Tmp) (z : Value) (c : List PanicEntry) (a : Act) (w : World), Q (.panic c) (a.put dst z) w → Q (.panic c) a w := fun _ _ c a w h => absurd h (hP _ _ _)
      simp only [run] at hT
      split at hT
      · rename_i hr
        have hq := hK ρ .normal bs st a w (Then.refl _ _ _) hρ hR hT
        show wpTwo P os Q SW TW ds m listed a w
        cases m with
        | zero => exact ⟨hr, hq⟩
        | succ m => exact ⟨fun _ => hq, by rw [hr]; simp⟩
      · rename_i hne
        cases m with
        | zero => exact hT.elim
        | succ m =>
          simp only at hT
          show wpTwo P os Q SW TW ds (m + 1) listed a w
          split at hT
          · rename_i j dst reqs v l' hfe
            obtain ⟨i, hir, hte⟩ := findEarly_take hfe
            obtain ⟨o, ho, rfl, rfl, hcase⟩ := tryEarly_take hte
            rw [forceA_eq] at hT
            obtain ⟨st', hR', e1, e2, hreq, hT'⟩ := mkNeeds_sound hR hT
            have next : ∀ {z : Value}, dv bs ρ v = some z → wpTwo P os Q SW TW ds m (listed.setIfInBounds i true) (a.put o.dst z) w := fun {z} hz =>
              ih δ none (.draw os ds m0 m1 kS (listed.setIfInBounds i true) m) (st'.put o.dst v) K bs ρ (a.put o.dst z) w Q SW TW (hR'.put o.dst hz) hρ hT' (fun ρ2 ex2 bs2 st2 a2 w2 hx2 => hK ρ2 ex2 bs2 st2 a2 w2 hx2.of_none) hP
                (fun _ _ _ _ _ _ _ he => by simp only [Task.draw.injEq] at he; obtain ⟨rfl, rfl, rfl, rfl, rfl, rfl, rfl⟩ := he; exact ⟨bs0, e0, w1, hbs, hSW, hTW, hM0, hM1, hTw, hSk⟩)
            rcases hcase with ⟨hg, hc, rfl⟩ | ⟨hg, hc, hp⟩ | ⟨hg, hk, hc, hp⟩
            · exact wpTwo_fast ho hc hir (fun c a w h => absurd h (hP _ _ _)) (.inr ⟨guard_no hR hg, rfl⟩) hTw (next rfl)
            · obtain ⟨z, hz, _⟩ := pureA_sound (P := P) (opd_sound hR.slot) (by rw [hTW] at hTw; rw [hbs]; exact hTw.mono e0) hp hreq
              refine wpTwo_fast ho hc hir (fun c a w h => absurd h (hP _ _ _)) (.inl ⟨guard_yes hR hg, fun w' hw' => ?_⟩) hTw (next hz)
              obtain ⟨z', hz', hrun⟩ := pureA_sound (P := P) (opd_sound hR.slot) (by rw [hTW] at hw'; rw [hbs]; exact hw'.mono e0) hp hreq
              rw [hz] at hz'; cases hz'
              exact hrun
            · have hSw : SW w := hSk hk
              obtain ⟨z, hz, _⟩ := pureA_sound (P := P) (opd_sound hR.slot) (by rw [hSW] at hSw; rw [hbs]; exact hSw.mono e0) hp hreq
              refine wpTwo_take ho rfl hc (fun c a w h => absurd h (hP _ _ _)) (.inl ⟨guard_yes hR hg, fun w' hw' => ?_⟩) hSw (next hz)
              obtain ⟨z', hz', hrun⟩ := pureA_sound (P := P) (opd_sound hR.slot) (by rw [hSW] at hw'; rw [hbs]; exact hw'.mono e0) hp hreq
              rw [hz] at hz'; cases hz'
              exact hrun
          · rename_i d e hfe
            obtain ⟨i, hte⟩ := findEarly_split hfe
            obtain ⟨st', hR', e1, e2, hT'⟩ := mkIte_sound hR hT
            exact ih δ none (.draw os ds m0 m1 kS listed (m + 1)) _ K bs ρ a w Q SW TW (hR'.decide e1 (tryEarly_split hte)) hρ hT' (fun ρ2 ex2 bs2 st2 a2 w2 hx2 => hK ρ2 ex2 bs2 st2 a2 w2 hx2.of_none) hP
              (fun _ _ _ _ _ _ _ he => by simp only [Task.draw.injEq] at he; obtain ⟨rfl, rfl, rfl, rfl, rfl, rfl, rfl⟩ := he; exact ⟨bs0, e0, w1, hbs, hSW, hTW, hM0, hM1, hTw, hSk⟩)
          · have hall := allOf_holds hT
            refine ⟨fun h => absurd h hne, fun i hi => ?_⟩
            let Kw : Act → World → Prop := fun a' w' => ((i ∉ ds → SW w → SW w') ∧ (TW w → TW w')) ∧ wpTwo P os Q SW TW ds m (listed.setIfInBounds i true) a' w'
            refine wpOp_swap (Q := Exit.then Kw Q) (ih δ none (.oper os i) st _ bs ρ a w (Exit.then Kw Q) (fun _ => True) (fun _ => True) hR hρ (hall i hi) ?_ (fun c a w h => hP c a w h) (fun _ _ _ _ _ _ _ h => by cases h)) (fun c a w h => hP c a w h) (fun a w h => h)
            intro ρ' ex bs' st' a' w' hx hf hR' hT'
            obtain ⟨rfl, e1, hbs'⟩ := hx
            have hbs2 : bs' = bs0 ++ (e0 ++ e1) := by rw [hbs', hbs, List.append_assoc]
            cases ex with
            | normal =>
              simp only at hT'
              split at hT'
              · rename_i hc
                simp only [Bool.and_eq_true, Bool.or_eq_true] at hc
                have hTw' : TW w' := by
                  rw [hTW]
                  exact kept_sound hc.1 hM1 (by rw [← hbs2]; exact hR'.mem.rel)
                have hSw' : keptM m0 st'.mem = true → SW w' := fun h0 => by
                  rw [hSW]
                  exact kept_sound h0 hM0 (by rw [← hbs2]; exact hR'.mem.rel)
                refine ⟨⟨fun hnot _ => ?_, fun _ => hTw'⟩, ?_⟩
                · rcases hc.2 with h0 | h0
                  · exact absurd (by simpa using h0) hnot
                  · exact hSw' h0
                · exact ih δ none (.draw os ds m0 m1 (keptM m0 st'.mem) (listed.setIfInBounds i true) m) st' K bs' ρ' a' w' Q SW TW hR' hf hT' (fun ρ2 ex2 bs2 st2 a2 w2 hx2 => hK ρ2 ex2 bs2 st2 a2 w2 (Then.trans (top := none) ⟨rfl, e1, hbs'⟩ hx2).of_none) hP
                    (fun _ _ _ _ _ _ _ he => by simp only [Task.draw.injEq] at he; obtain ⟨rfl, rfl, rfl, rfl, rfl, rfl, rfl⟩ := he; exact ⟨bs0, e0 ++ e1, w1, hbs2, hSW, hTW, hM0, hM1, hTw', hSw'⟩)
              · exact hT'.elim
            | exit id => exact hT'.elim
            | ret => exact hT'.elim
    | oper os i =>
      simp only [run] at hT
      show wpOp P os Q i (fun a' w' => Q .normal a' w') a w
      split at hT
      · exact hT.elim
      · rename_i o ho
        have hrefl := Then.refl top ρ bs
        have unf : (if Region.wanted o (yielded os a.tmps) = true then o.wp P a w (fun a' w' => Q .normal a' w') Q else Q .normal (a.put o.dst undef) w) → wpOp P os Q i (fun a' w' => Q .normal a' w') a w := by
          intro h
          unfold wpOp
          simp only [ho]
          split at h
          · rename_i hw; simp only [hw, if_true]; exact .inl h
          · rename_i hw; simp only [hw]; exact h
        split at hT
        · exact hT.elim
        · rename_i hg
          refine unf ?_
          rw [guard_no hR hg]
          exact hK ρ .normal bs _ _ w hrefl hρ (hR.put o.dst (v := .tuple .nil) (z := undef) rfl) hT
        · rename_i d e hg
          obtain ⟨st', hR', e1, e2, hT'⟩ := mkIte_sound hR hT
          exact ih δ none (.oper os i) _ K bs ρ a w Q (fun _ => True) (fun _ => True) (hR'.decide e1 (guard_sym hg)) hρ hT' (fun ρ2 ex2 bs2 st2 a2 w2 hx2 => hK ρ2 ex2 bs2 st2 a2 w2 hx2.of_none) hP (fun _ _ _ _ _ _ _ h => by cases h)
        · rename_i hg
          split at hT
          · rename_i d k ix m hsp
            obtain ⟨st', j, hR', e1, e2, hj, hT'⟩ := splitRun_sound hR hT
            exact ih δ none (.oper os i) _ K bs ρ a w Q (fun _ => True) (fun _ => True) (hR'.pin e1 (splitI_slot hsp) hj) hρ hT' (fun ρ2 ex2 bs2 st2 a2 w2 hx2 => hK ρ2 ex2 bs2 st2 a2 w2 hx2.of_none) hP (fun _ _ _ _ _ _ _ h => by cases h)
          · refine unf ?_
            rw [guard_yes hR hg]
            simp only [if_true]
            unfold Oper.wp
            split at hT
            · rename_i reqs v hp
              rw [forceA_eq] at hT
              obtain ⟨st', hR', e1, e2, hreq, hT'⟩ := mkNeeds_sound hR hT
              obtain ⟨z, hz, hrun⟩ := pureA_sound (P := P) (opd_sound hR.slot) hR.mem.rel hp hreq
              rw [hrun]
              exact hK ρ .normal bs _ _ w hrefl hρ (hR'.put o.dst hz) hT'
            · split at hT
              · rename_i reqs v mem' hp
                rw [forceA_eq] at hT
                obtain ⟨ex, z, w', hz, hM, hrun⟩ := effB_sound (P := P) (opd_sound hR.slot) hR.mem hp
                have hx : Then top ρ ρ bs (bs ++ ex) := Then.of_none ⟨rfl, ex, rfl⟩
                have hR2 := (hR.eff hM).put o.dst hz
                rcases hrun with hrun | ⟨hrun, rfl⟩
                · rw [hrun]
                  exact hK ρ .normal _ _ _ w' hx hρ hR2 hT
                · rw [hrun]
                  exact hK ρ .normal _ _ _ w' hx hρ hR2 hT
              · split at hT
                · rename_i reqs v mem' hp
                  obtain ⟨st', hR', e1, e2, hreq, hT'⟩ := mkNeeds_sound hR hT
                  obtain ⟨ex, z, w', hz, hM, hrun⟩ := appA_sound (P := P) (opd_sound hR.slot) hR.mem hp hreq
                  have hx : Then top ρ ρ bs (bs ++ ex) := Then.of_none ⟨rfl, ex, rfl⟩
                  rw [hrun]
                  exact hK ρ .normal _ _ _ w' hx hρ ((hR'.eff hM).put o.dst hz) hT'
                · split at hT
                  · exact hT.elim
                  · rename_i f args hcall
                    split at hT
                    · exact hT.elim
                    · rename_i hokf
                      obtain ⟨vs, hvs, hexec⟩ := callA_sound (P := P) (opd_sound hR.slot) hcall
                      obtain ⟨fn, hfn, hname, hbody⟩ := hcfg.names f (by simpa using hokf)
                      rw [hexec w, run_callFunc hfn hname hbody]
                      rw [Oper.upon_enter]
                      split at hT
                      · rename_i out hsum
                        obtain ⟨st', v, mem', hR', e1, e2, hp, hT'⟩ := outRun_sound hR hT
                        rw [forceA_eq] at hT'
                        refine (hcfg.sums f args st.mem out hsum S w0 bs ρ w vs v mem' hN hρ hvs hR.mem hp).mono ?_
                        rintro e w' ⟨ex, z, rfl, hz, hM⟩
                        have hR2 : RelS δ (bs ++ ex) ρ S w0 { slots := st'.slots, mem := mem', pc := st'.pc } a w' := ⟨hR'.size, fun i v hv => dv_mono ex v (hR'.slot i v hv), hR'.defers, hM, hR'.pc⟩
                        exact hK ρ .normal (bs ++ ex) _ _ w' (Then.of_none ⟨rfl, ex, rfl⟩) hρ (hR2.put o.dst hz) hT'
                      · simp only [hfn] at hT
                        cases hc : fn.body with
                        | none => rw [hc] at hbody; cases hbody
                        | some c =>
                          simp only [hc] at hT
                          split at hT
                          · exact hT.elim
                          · rename_i hle
                            have hlen := dvl_length hvs
                            refine calls_of_wp hfn hc (ih [] none (.code c) _ _ bs ρ _ w _ (fun _ => True) (fun _ => True) ?_ hρ hT ?_ ?_ (fun _ _ _ _ _ _ _ h => by cases h))
                            · refine ⟨by simp [hlen], ?_, rfl, hR.mem, hR.pc⟩
                              have := slots_map args vs (fn.ntmps - args.length) hvs
                              simpa [hlen] using this
                            · intro ρ' ex bs' st' a' w' hx hf hR' hT'
                              obtain ⟨rfl, e1, rfl⟩ := hx
                              have fin : (match resultA P fn st' with | some v => K .normal { slots := updS st.slots o.dst v, mem := st'.mem, pc := st'.pc } | none => .fail 19).holds I L ρ' →
                                  a'.defers = [] ∧ ∃ v, (results fn a'.tmps).run P w' = .ok v w' ∧ Q .normal (a.put o.dst v) w' := by
                                intro hT'
                                split at hT'
                                · rename_i v hv
                                  obtain ⟨z, hz, hrun⟩ := resultA_sound (P := P) hR' hv
                                  refine ⟨hR'.defers, z, hrun, ?_⟩
                                  have hR3 : RelS δ (bs ++ e1) ρ' S w0 { slots := st.slots, mem := st'.mem, pc := st'.pc } a w' := ⟨hR.size, fun i v hv => dv_mono e1 v (hR.slot i v hv), hR.defers, hR'.mem, hR'.pc⟩
                                  exact hK ρ' .normal _ _ _ w' (Then.of_none ⟨rfl, e1, rfl⟩) hf (hR3.put o.dst hz) hT'
                                · exact hT'.elim
                              cases ex with
                              | normal => exact fin hT'
                              | ret => exact fin hT'
                              | exit id => exact hT'.elim
                            · intro ch a' w' h
                              exact hP _ _ _ h.2

end Go.SX

/- Symbolic execution of the model's code: the executor once more, told in small pieces (that the kernel need not carry the whole of it at each step). -/
namespace Go.SX
set_option linter.unusedVariables false
abbrev Rec := Option (List Nat) → Task → ASt → (AExit → ASt → Tree) → Tree
def retF (P : Program) (o : Oper) (fn : Func) (st : ASt) (K : AExit → ASt → Tree) (st' : ASt) : Tree := match resultA P fn st' with
  | some v => K .normal { slots := updS st.slots o.dst v, mem := st'.mem, pc := st'.pc }
  | none => .fail 19
def leaveF (P : Program) (o : Oper) (fn : Func) (st : ASt) (K : AExit → ASt → Tree) (ex : AExit) (st' : ASt) : Tree := match ex with
  | .exit _ => .fail 18
  | _ => retF P o fn st K st'
def enterF (P : Program) (rec : Rec) (o : Oper) (fn : Func) (c : Code) (args : List AV) (st : ASt) (K : AExit → ASt → Tree) : Tree :=
  if fn.ntmps < args.length then .fail 17 else
    rec none (.code c) { slots := args.map some ++ List.replicate (fn.ntmps - args.length) (some (.tuple .nil)), mem := st.mem, pc := st.pc } (leaveF P o fn st K)
def funF (P : Program) (rec : Rec) (o : Oper) (f : FuncId) (args : List AV) (st : ASt) (K : AExit → ASt → Tree) : Tree := match P.funcs[f]? with
  | none => .fail 15
  | some fn => match fn.body with
    | none => .fail 16
    | some c => enterF P rec o fn c args st K
def callF (P : Program) (cfg : Cfg) (rec : Rec) (o : Oper) (f : FuncId) (args : List AV) (st : ASt) (K : AExit → ASt → Tree) : Tree :=
  if cfg.ok.contains f = false then .fail (1000 + f) else
    match cfg.sums f args st.mem with
    | some out => outRun out st fun v mem' st' => forceA v fun v => K .normal { slots := updS st'.slots o.dst v, mem := mem', pc := st'.pc }
    | none => funF P rec o f args st K
def operC (P : Program) (cfg : Cfg) (rec : Rec) (i : Nat) (o : Oper) (st : ASt) (K : AExit → ASt → Tree) : Tree := match callA P (opd st.slots) o.op with
  | none => .fail (i * 100 + 14)
  | some (f, args) => callF P cfg rec o f args st K
def operB (P : Program) (cfg : Cfg) (rec : Rec) (i : Nat) (o : Oper) (st : ASt) (K : AExit → ASt → Tree) : Tree := match appA P st.mem (opd st.slots) o.op (pickP P st.mem (opd st.slots) o.op st.pc cfg.pre) with
  | some (reqs, v, mem') => mkNeeds reqs st fun st' => K .normal { (st'.put o.dst v) with mem := mem' }
  | none => operC P cfg rec i o st K
def operE (P : Program) (cfg : Cfg) (rec : Rec) (i : Nat) (o : Oper) (st : ASt) (K : AExit → ASt → Tree) : Tree := match effB P st.mem (opd st.slots) o.op with
  | some (_, v, mem') => forceA v fun v => K .normal { (st.put o.dst v) with mem := mem' }
  | none => operB P cfg rec i o st K
def operP (P : Program) (cfg : Cfg) (rec : Rec) (i : Nat) (o : Oper) (st : ASt) (K : AExit → ASt → Tree) : Tree := match pureA P st.mem (opd st.slots) o.op with
  | some (reqs, v) => forceA v fun v => mkNeeds reqs st fun st' => K .normal (st'.put o.dst v)
  | none => operE P cfg rec i o st K
def operY (P : Program) (cfg : Cfg) (rec : Rec) (ops : Array Oper) (i : Nat) (o : Oper) (st : ASt) (K : AExit → ASt → Tree) : Tree := match splitI P st.slots o.op with
  | some (d, k, ix, m) => splitRun ix (List.range m) st fun st' j => rec none (.oper ops i) (st'.put (some d) (.int k (.lit j))) K
  | none => operP P cfg rec i o st K
def operG (P : Program) (cfg : Cfg) (rec : Rec) (ops : Array Oper) (i : Nat) (o : Oper) (st : ASt) (K : AExit → ASt → Tree) (g : GuardR) : Tree := match g with
  | .bad => .fail 13
  | .no => K .normal (st.put o.dst (.tuple .nil))
  | .sym d e => mkIte e st fun st' b => rec none (.oper ops i) (st'.put (some d) (.bool (.lit (ofB b)))) K
  | .yes => operY P cfg rec ops i o st K
def operF (P : Program) (cfg : Cfg) (rec : Rec) (ops : Array Oper) (i : Nat) (st : ASt) (K : AExit → ASt → Tree) : Tree := match ops[i]? with
  | none => .fail 12
  | some o => operG P cfg rec ops i o st K (guardA ops st.slots o)
def drawNo (rec : Rec) (ops : Array Oper) (ds : List Nat) (m0 m1 : List AObj) (listed : Array Bool) (m : Nat) (st : ASt) (K : AExit → ASt → Tree) (rs : List Nat) : Tree :=
  allOf (fun i => rec none (.oper ops i) st fun ex st' => match ex with
    | .normal => if keptM m1 st'.mem && (ds.contains i || keptM m0 st'.mem) then rec none (.draw ops ds m0 m1 (keptM m0 st'.mem) (listed.setIfInBounds i true) m) st' K else .fail (i * 100 + 10)
    | _ => .fail 11) rs
def drawE (rec : Rec) (ops : Array Oper) (ds : List Nat) (m0 m1 : List AObj) (kS : Bool) (listed : Array Bool) (m : Nat) (st : ASt) (K : AExit → ASt → Tree) (rs : List Nat) (e : Early) : Tree := match e with
  | .take _ dst reqs v listed' => forceA v fun v => mkNeeds reqs st fun st' => rec none (.draw ops ds m0 m1 kS listed' m) (st'.put dst v) K
  | .split d e => mkIte e st fun st' b => rec none (.draw ops ds m0 m1 kS listed (m + 1)) (st'.put (some d) (.bool (.lit (ofB b)))) K
  | .no => drawNo rec ops ds m0 m1 listed m st K rs
def drawF (P : Program) (rec : Rec) (ops : Array Oper) (ds : List Nat) (m0 m1 : List AObj) (kS : Bool) (listed : Array Bool) (m : Nat) (st : ASt) (K : AExit → ASt → Tree) : Tree :=
  match Region.ready .any ops listed with
  | [] => K .normal st
  | rs => match m with
    | 0 => .fail 9
    | m + 1 => drawE rec ops ds m0 m1 kS listed m st K rs (findEarly P st ops ds m0 m1 kS listed rs)
def loopG (rec : Rec) (c : Code) (ks : List Nat) (sp : LoopSpec) (st : ASt) (K : AExit → ASt → Tree) : Tree :=
  let h := headOf sp st
  let θ := bindAll sp st
  if fit θ h st && lowKeys θ then
    mkFacts θ (.loop sp.key θ (rec (some (sp.key :: ks)) (.code c) h fun ex st' => match ex with
      | .normal =>
        let θ' := bindAll sp st'
        if fit θ' h st' && lowKeys θ' then mkFacts θ' (.again sp.key θ') h.pc else .fail 6
      | ex => K ex st')) h.pc
  else .fail 5
def loopF (cfg : Cfg) (rec : Rec) (top : Option (List Nat)) (c : Code) (st : ASt) (K : AExit → ASt → Tree) : Tree :=
  match top.bind fun ks => ((Code.key c).bind fun k => findLoop k cfg.loops).bind fun sp => if ks.contains sp.key then none else some (ks, sp) with
  | some (ks, sp) => loopG rec c ks sp st K
  | none => rec top (.rounds c) st K
def regionT (P : Program) (cfg : Cfg) (rec : Rec) (top : Option (List Nat)) (id : Nat) (ops : Array Oper) (K : AExit → ASt → Tree) (st : ASt) : Tree :=
  match (if Nat.ble cfg.tbl ops.size = true then
      startT P ops (storesOf cfg.wr ops ++ (if top.isSome = true then hintOf id cfg.writers else [])) st.mem (strike st.mem (guessS cfg.wr P st.mem ops.toList st.slots ++ (if top.isSome = true then hintOf id cfg.hints else [])))
        (fun i st' => decoS (rec none (.oper ops i) st' (endK st.mem.length)).one) st
    else none) with
  | some st' => K .normal st'
  | none => rec none (.draw ops (storesOf cfg.wr ops ++ (if top.isSome = true then hintOf id cfg.writers else [])) st.mem (strike st.mem (guessS cfg.wr P st.mem ops.toList st.slots ++ (if top.isSome = true then hintOf id cfg.hints else []))) true (Array.replicate ops.size false) ops.size) st K
def regionF (P : Program) (cfg : Cfg) (rec : Rec) (top : Option (List Nat)) (id : Nat) (ops : Array Oper) (K : AExit → ASt → Tree) (st : ASt) : Tree :=
  match cfg.holes (.region id ops true) st with
  | some (ex, st') => K ex st'
  | none => regionT P cfg rec top id ops K st
def seqF (rec : Rec) (top : Option (List Nat)) (b : Code) (K : AExit → ASt → Tree) (ex : AExit) (st' : ASt) : Tree := match ex with
  | .normal => rec top (.code b) st' K
  | ex => K ex st'
def blockF (id : Nat) (K : AExit → ASt → Tree) (ex : AExit) (st' : ASt) : Tree := match ex with
  | .exit id' => if id' = id then K .normal st' else K (.exit id') st'
  | ex => K ex st'
def blockH (cfg : Cfg) (rec : Rec) (top : Option (List Nat)) (id : Nat) (c : Code) (st : ASt) (K : AExit → ASt → Tree) : Tree :=
  match cfg.holes (.block id c) st with
  | some (ex, st') => K ex st'
  | none => rec top (.code c) st (blockF id K)
def condF (rec : Rec) (top : Option (List Nat)) (c : Operand) (a b : Code) (st : ASt) (K : AExit → ASt → Tree) : Tree := match boolOf (opd st.slots c) with
  | some e => mkIte e st fun st' t => rec top (.code (if t then a else b)) st' K
  | none => .fail 4
def codeF (P : Program) (cfg : Cfg) (rec : Rec) (top : Option (List Nat)) (c : Code) (st : ASt) (K : AExit → ASt → Tree) : Tree := match c with
  | .skip | .label _ => K .normal st
  | .ret => K .ret st
  | .exit id => K (.exit id) st
  | .seq a b => rec top (.code a) st (seqF rec top b K)
  | .block id c => blockH cfg rec top id c st K
  | .cond c a b => condF rec top c a b st K
  | .scope c => rec top (.code c) st K
  | .region _ ops false => forceS st fun st => rec none (.ops ops (List.range ops.size)) st K
  | .region id ops true => forceS st (regionF P cfg rec top id ops K)
  | .loop c => loopF cfg rec top c st K
  | _ => .fail 7
def roundsF (rec : Rec) (top : Option (List Nat)) (c : Code) (K : AExit → ASt → Tree) (ex : AExit) (st' : ASt) : Tree := match ex with
  | .normal => rec top (.rounds c) st' K
  | ex => K ex st'
def opsG (rec : Rec) (ops : Array Oper) (r : List Nat) (K : AExit → ASt → Tree) (ex : AExit) (st' : ASt) : Tree := match ex with
  | .normal => rec none (.ops ops r) st' K
  | _ => .fail 8
def opsF (rec : Rec) (ops : Array Oper) (l : List Nat) (st : ASt) (K : AExit → ASt → Tree) : Tree := match l with
  | [] => K .normal st
  | i :: r => rec none (.oper ops i) st (opsG rec ops r K)
def stepF (P : Program) (cfg : Cfg) (rec : Rec) (top : Option (List Nat)) (t : Task) (st : ASt) (K : AExit → ASt → Tree) : Tree := match t with
  | .code c => codeF P cfg rec top c st K
  | .rounds c => rec top (.code c) st (roundsF rec top c K)
  | .ops ops l => opsF rec ops l st K
  | .draw ops ds m0 m1 kS listed m => drawF P rec ops ds m0 m1 kS listed m st K
  | .oper ops i => operF P cfg rec ops i st K
def runF (P : Program) (cfg : Cfg) : Nat → Rec
  | 0 => fun _ _ _ _ => .fail 0
  | n + 1 => stepF P cfg (runF P cfg n)

theorem runF_eq (P : Program) (cfg : Cfg) : ∀ n, runF P cfg n = run P cfg n := by
  intro n
  induction n with
  | zero => funext top t st K; simp only [runF, run]
  | succ n ih =>
    funext top t st K
    simp only [runF]
    rw [ih]
    cases t with
    | code c =>
      cases c with
      | region id ops d => cases d <;> simp only [stepF, codeF, run] <;> rfl
      | seq a b => simp only [stepF, codeF, run]; congr 1
      | block id c =>
        simp only [stepF, codeF, run, blockH]
        generalize cfg.holes (.block id c) st = h
        cases h with
        | none => simp only; congr 1
        | some p => rfl
      | loop c => simp only [stepF, codeF, run, loopF]; rfl
      | _ => simp only [stepF, codeF, run] <;> rfl
    | rounds c => simp only [stepF, run]; rfl
    | ops os l => cases l <;> simp only [stepF, opsF, run] <;> rfl
    | draw os ds m0 m1 kS listed m =>
      simp only [stepF, drawF, run]
      generalize Region.ready Region.Mode.any os listed = rs
      cases rs with
      | nil => rfl
      | cons r rs =>
        cases m with
        | zero => rfl
        | succ m =>
          simp only
          generalize findEarly P st os ds m0 m1 kS listed (r :: rs) = e
          cases e <;> rfl
    | oper os i =>
      simp only [stepF, operF, run]
      generalize os[i]? = oo
      cases oo with
      | none => rfl
      | some o =>
        simp only [operG]
        generalize guardA os st.slots o = g
        cases g with
        | bad => rfl
        | no => rfl
        | sym d e => rfl
        | yes =>
          simp only [operY]
          generalize splitI P st.slots o.op = x1
          cases x1 with
          | some x => obtain ⟨d, k, ix, m⟩ := x; rfl
          | none =>
            simp only [operP]
            generalize pureA P st.mem (opd st.slots) o.op = x2
            cases x2 with
            | some x => obtain ⟨reqs, v⟩ := x; rfl
            | none =>
              simp only [operE]
              generalize effB P st.mem (opd st.slots) o.op = x3
              cases x3 with
              | some x => obtain ⟨reqs, v, mem'⟩ := x; rfl
              | none =>
                simp only [operB]
                generalize appA P st.mem (opd st.slots) o.op (pickP P st.mem (opd st.slots) o.op st.pc cfg.pre) = x4
                cases x4 with
                | some x => obtain ⟨reqs, v, mem'⟩ := x; rfl
                | none =>
                  simp only [operC]
                  generalize callA P (opd st.slots) o.op = x5
                  cases x5 with
                  | none => rfl
                  | some x =>
                    obtain ⟨f, args⟩ := x
                    simp only [callF]
                    split
                    · rfl
                    · generalize cfg.sums f args st.mem = x6
                      cases x6 with
                      | some out => rfl
                      | none =>
                        simp only [funF]
                        generalize P.funcs[f]? = x7
                        cases x7 with
                        | none => rfl
                        | some fn =>
                          simp only
                          generalize fn.body = x8
                          cases x8 <;> rfl
end Go.SX
