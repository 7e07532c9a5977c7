/- Symbolic execution of the model's code, part 6: the operations that make or write memory. -/
import Derived.Test.YtplkegifilheeaaSXe
import Derived.Laws.CopyRow
import Derived.Laws.Tables
import Derived.Maps.AppendAt
namespace Go.SX
set_option linter.unusedSimpArgs false
set_option linter.unusedVariables false

/-- One cell alone may hold it. -/
def AV.one : AV → Bool
  | .agg _ | .tuple _ | .nil | .cons _ _ => false
  | _ => true

def setMem (mem : List AObj) (id : Nat) (o : AObj) : List AObj := mem.set id o

/-- What must hold, the value, the memory behind. -/
def effA (P : Program) (mem : List AObj) (ev : Operand → Option AV) (op : Op) : Option (List SE × AV × List AObj) :=
  match op with
  | .alloc t => (zeroA P t).map fun z => ([], .ptr mem.length 0, mem ++ [.cells z.cells t true none])
  | .box t x => (ev x).map fun v => ([], .ptr mem.length 0, mem ++ [.cells v.cells t true none])
  | .buildSlice t len ps => match P.underlying t with
    | some (.slice e) => (sizeA P e).bind fun s => (zeroA P e).bind fun z =>
      if s = 0 ∨ z.cells.length ≠ s ∨ len * s > 1000 then none else
      (partsA ev ps.toList).bind fun l => (fillA (fun i => some (i * s, s)) ((List.range len).flatMap fun _ => z.cells) l).map fun c =>
        ([], .row mem.length 0 (.lit len) 0, mem ++ [.cells c e true (some s)])
    | _ => none
  | .makeSlice t n c => match P.underlying t, ev n, ev c with
    | some (.slice e), some (.int _ (.lit n)), some (.int _ (.lit c)) => match P.info? e with
      | some i => (zeroA P e).bind fun z =>
        if n ≠ c ∨ n < 0 ∨ 100000 < n ∨ i.size = 0 ∨ z.cells.length ≠ i.size ∨ 1000 < i.bytes then none else
        some ([], .row mem.length 0 (.lit n) 0, mem ++ [.cells ((List.range n.toNat).flatMap fun _ => z.cells) e true (some i.size)])
      | none => none
    | _, _, _ => none
  | .store t a x => (ev a).bind fun p => (ev x).bind fun v =>
    match p with
    | .ptr id off => match mem[id]? with
      | some (.cells c ty true g) =>
        if sizeA P t = some v.cells.length ∧ off + v.cells.length ≤ c.length ∧ v.cells.all AV.one = true then
          some ([], .tuple .nil, mem.set id (.cells (c.take off ++ v.cells ++ c.drop (off + v.cells.length)) ty true g))
        else none
      | _ => none
    | _ => none
  | .call c => match c.callee, c.args.toList, c.argTypes.toList with
    | .builtin .append, [x, y], [t, t'] => if t ≠ t' then none else
      match P.underlying t with
      | some (.slice e) => match P.info? e with
        | some i => (zeroA P e).bind fun z => (ev x).bind fun a => (ev y).bind fun b =>
          if i.size = 0 ∨ z.cells.length ≠ i.size then none else
          match b with
          | .row id2 off2 (.lit m) _ => match mem[id2]? with
            | some (.cells c2 _ _ _) => (takeC c2 off2 (m.toNat * i.size)).bind fun news =>
              if m ≤ 0 ∨ news.all AV.one = false then none else
              match a with
              | .nilslice => if m.toNat ≤ 100000 ∧ m.toNat * i.bytes ≤ 1000000 then some ([], .row mem.length 0 (.lit m) 0, mem ++ [.cells news e true (some i.size)]) else none
              | .row id 0 (.lit n) 0 => match mem[id]? with
                | some (.cells cc ty true (some s)) => if ty = e ∧ s = i.size ∧ 0 ≤ n ∧ cc.length = n.toNat * i.size ∧ n.toNat + m.toNat ≤ 100000 ∧ (n.toNat + m.toNat) * i.bytes ≤ 1000000 then
                    some ([], .row mem.length 0 (.lit (n + m)) 0, mem.set id .dead ++ [.cells (cc ++ news) e true (some i.size)]) else none
                | _ => none
              | _ => none
            | _ => none
          | _ => none
        | none => none
      | _ => none
    | _, _, _ => none
  | _ => none

/-! ### the relation to a world -/
variable {bs : List Ent} {ρ : Env} {P : Program} {w : World}

structure Keep (S : Nat → Prop) (w0 w : World) : Prop where
  os : w.os = w0.os
  tape : w.tape = w0.tape
  output : w.output = w0.output
  size : w0.heap.size ≤ w.heap.size
  block : ∀ b, S b → w.heap[b]? = w0.heap[b]?
  old : ∀ b, S b → b < w0.heap.size

def AObj.mine : AObj → Bool
  | .cells _ _ own _ => own
  | _ => false

/-- Does it take a block? (An empty row may lie nowhere.) -/
def Occ (ρ : Env) : AObj → Prop
  | .dead => False
  | .sym _ cap _ _ => 0 < den ρ cap
  | .cells .. => True
theorem Occ.mine {ρ : Env} {o : AObj} (h : o.mine = true) : Occ ρ o := by cases o <;> first | trivial | cases h
structure RelM (bs : List Ent) (ρ : Env) (S : Nat → Prop) (w0 : World) (mem : List AObj) (w : World) : Prop where
  len : bs.length = mem.length
  rel : MRel bs ρ mem w
  own : ∀ (i : Nat) (o : AObj) (b : Ent), mem[i]? = some o → o.mine = true → bs[i]? = some b → ¬ S b.blk
  apart : ∀ (i j : Nat) (o o' : AObj) (b b' : Ent), i ≠ j → mem[i]? = some o → mem[j]? = some o' → o.mine = true → Occ ρ o' → bs[i]? = some b → bs[j]? = some b' → b.blk ≠ b'.blk
  keep : Keep S w0 w

mutual
theorem dv_mono (ex : List Ent) : ∀ (a : AV) {v : Value}, dv bs ρ a = some v → dv (bs ++ ex) ρ a = some v
  | .int _ _, v, h | .bool _, v, h | .str _, v, h | .nilptr, v, h | .gptr _, v, h | .nilslice, v, h | .bstr _, v, h | .nilFunc, v, h | .nilIface, v, h => h
  | .ptr id off, v, h | .sptr id _ _ off, v, h | .slice id off _ _, v, h | .arg id, v, h | .row id off _ _, v, h => by
    simp only [dv, Option.map_eq_some_iff] at h ⊢
    obtain ⟨b, hb, hv⟩ := h
    exact ⟨b, by rw [List.getElem?_append_left (List.getElem?_eq_some_iff.1 hb).1]; exact hb, hv⟩
  | .fn f c, v, h | .fnx f c, v, h => by
    simp only [dv, Option.map_eq_some_iff] at h ⊢
    obtain ⟨b, hb, hv⟩ := h
    exact ⟨b, dvs_mono ex c hb, hv⟩
  | .agg l, v, h | .tuple l, v, h => by
    simp only [dv, Option.map_eq_some_iff] at h ⊢
    obtain ⟨b, hb, hv⟩ := h
    exact ⟨b, dvs_mono ex l hb, hv⟩
  | .iface t x, v, h => by
    simp only [dv, Option.map_eq_some_iff] at h ⊢
    obtain ⟨b, hb, hv⟩ := h
    exact ⟨b, dv_mono ex x hb, hv⟩
  | .nil, v, h | .cons _ _, v, h => by simp [dv] at h
theorem dvs_mono (ex : List Ent) : ∀ (a : AV) {v : List Value}, dvs bs ρ a = some v → dvs (bs ++ ex) ρ a = some v
  | .nil, v, h => h
  | .cons a b, v, h => by
    simp only [dvs, Option.bind_eq_some_iff, Option.map_eq_some_iff] at h ⊢
    obtain ⟨x, hx, xs, hxs, hv⟩ := h
    exact ⟨x, dv_mono ex a hx, xs, dvs_mono ex b hxs, hv⟩
  | .int _ _, _, h | .bool _, _, h | .str _, _, h | .ptr _ _, _, h | .sptr _ _ _ _, _, h | .nilptr, _, h | .gptr _, _, h | .slice _ _ _ _, _, h | .arg _, _, h | .row _ _ _ _, _, h | .nilslice, _, h | .bstr _, _, h
  | .fn _ _, _, h | .fnx _ _, _, h | .nilFunc, _, h | .iface _ _, _, h | .nilIface, _, h | .agg _, _, h | .tuple _, _, h => by simp [dvs] at h
end
theorem dvl_mono (ex : List Ent) : ∀ {l : List AV} {vs : List Value}, dvl bs ρ l = some vs → dvl (bs ++ ex) ρ l = some vs
  | [], vs, h => h
  | a :: l, vs, h => by
    simp only [dvl, Option.bind_eq_some_iff, Option.map_eq_some_iff] at h ⊢
    obtain ⟨x, hx, xs, hxs, hv⟩ := h
    exact ⟨x, dv_mono ex a hx, xs, dvl_mono ex hxs, hv⟩

theorem ORel.mono {b : Ent} {o : AObj} (ex : List Ent) (h : ORel bs ρ w b o) : ORel (bs ++ ex) ρ w b o := by
  cases o with
  | cells c ty own g => obtain ⟨vs, tail, h1, h2, h3⟩ := h; exact ⟨vs, tail, dvl_mono ex h1, h2, h3⟩
  | sym n cap row ty => exact h
  | dead => exact h

/-- A block that reads as it did. -/
theorem ORel.same {b : Ent} {o : AObj} {w' : World} (h : ORel bs ρ w b o) (hw : Occ ρ o → w'.heap[b.blk]? = w.heap[b.blk]?) : ORel bs ρ w' b o := by
  cases o with
  | cells c ty own g => obtain ⟨vs, tail, h1, h2, h3⟩ := h; exact ⟨vs, tail, h1, by rw [hw trivial]; exact h2, h3⟩
  | sym n cap row ty =>
    obtain ⟨e1, e2, e3, e4, e5, e6⟩ := h
    refine ⟨e1, e2, e3, e4, e5, fun h0 => ?_⟩
    obtain ⟨e7, h1, h2⟩ := e6 h0
    have hb := hw h0
    refine ⟨e7, ?_, fun i j p hi hp => ⟨?_, (h2 i j p hi hp).2⟩⟩
    · have h3 : w.heap[b.blk]? = some w.heap[b.blk] := Array.getElem?_eq_getElem h1
      rw [← hb] at h3
      exact (Array.getElem?_eq_some_iff.1 h3).1
    · rw [World.cell?_of_block (w := w) hb]; exact (h2 i j p hi hp).1
  | dead => trivial

theorem ORel.lt {b : Ent} {o : AObj} (h : ORel bs ρ w b o) (hl : Occ ρ o) : b.blk < w.heap.size := by
  cases o with
  | cells c ty own g => obtain ⟨vs, tail, h1, h2, h3⟩ := h; exact (Array.getElem?_eq_some_iff.1 h2).1
  | sym n cap row ty =>
    obtain ⟨e1, e2, e3, e4, e5, e6⟩ := h
    exact (e6 hl).2.1
  | dead => exact hl.elim

section
variable {S : Nat → Prop} {w0 : World} {mem : List AObj}

theorem RelM.fresh (h : RelM bs ρ S w0 mem w) : ¬ S w.heap.size := fun hs => by
  have := h.keep.old _ hs
  have := h.keep.size
  omega

/-- A new block behind the others. 'w'': it has grown by that block, at most one other (dead by now) has turned. -/
theorem RelM.push {w' : World} (h : RelM bs ρ S w0 mem w) {mem' : List AObj} (b : Ent) (c : AObj) (hlen : mem'.length = mem.length)
    (hmem : ∀ (i : Nat) o, mem'[i]? = some o → mem[i]? = some o ∨ o = .dead)
    (hold : ∀ (i : Nat) o e, mem'[i]? = some o → Occ ρ o → bs[i]? = some e → w'.heap[e.blk]? = w.heap[e.blk]? ∧ e.blk ≠ b.blk)
    (hc : ORel bs ρ w' b c) (hS : ¬ S b.blk) (hk : Keep S w0 w') : RelM (bs ++ [b]) ρ S w0 (mem' ++ [c]) w' := by
  have hl : bs.length = mem'.length := by rw [hlen]; exact h.len
  have get : ∀ {i : Nat} {o}, (mem' ++ [c])[i]? = some o → (mem'[i]? = some o ∧ (bs ++ [b])[i]? = bs[i]?) ∨ (i = mem'.length ∧ o = c ∧ (bs ++ [b])[i]? = some b) := fun {i o} ho => by
    by_cases hi : i < mem'.length
    · rw [List.getElem?_append_left hi] at ho
      exact .inl ⟨ho, List.getElem?_append_left (by omega)⟩
    · rw [List.getElem?_append_right (by omega)] at ho
      have hi' : i = mem'.length := by
        have := (List.getElem?_eq_some_iff.1 ho).1
        simp at this
        omega
      subst hi'
      simp at ho
      refine .inr ⟨rfl, ho.symm, ?_⟩
      rw [← hl, List.getElem?_append_right (Nat.le_refl _)]
      simp
  refine ⟨by simp [hl], ?_, ?_, ?_, hk⟩
  · intro i o ho
    rcases get ho with ⟨ho, he⟩ | ⟨rfl, rfl, he⟩
    · rw [he]
      rcases hmem i o ho with h1 | rfl
      · obtain ⟨e, he, hr⟩ := h.rel i o h1
        exact ⟨e, he, (hr.same (fun hlv => (hold i o e ho hlv he).1)).mono _⟩
      · have hi : i < bs.length := by rw [hl]; exact (List.getElem?_eq_some_iff.1 ho).1
        exact ⟨bs[i], by simp [hi], trivial⟩
    · exact ⟨b, he, hc.mono _⟩
  · intro i o e ho hm he
    rcases get ho with ⟨ho, he'⟩ | ⟨rfl, rfl, he'⟩
    · rw [he'] at he
      rcases hmem i o ho with h1 | rfl
      · exact h.own i o e h1 hm he
      · cases hm
    · rw [he'] at he; cases he; exact hS
  · intro i j o o' e e' hij ho ho' hm hlv he he'
    have mine_live : Occ ρ o := Occ.mine hm
    rcases get ho with ⟨po, hb⟩ | ⟨rfl, rfl, hb⟩ <;> rcases get ho' with ⟨po', hb'⟩ | ⟨rfl, rfl, hb'⟩
    · rw [hb] at he; rw [hb'] at he'
      rcases hmem i o po with h1 | rfl
      · rcases hmem j o' po' with h2 | rfl
        · exact h.apart i j o o' e e' hij h1 h2 hm hlv he he'
        · exact hlv.elim
      · cases hm
    · rw [hb] at he; rw [hb'] at he'; cases he'
      exact (hold i o e po mine_live he).2
    · rw [hb] at he; rw [hb'] at he'; cases he
      exact fun h0 => (hold j o' e' po' hlv he').2 h0.symm
    · exact absurd rfl hij

theorem Keep.alloc {w' : World} (h : Keep S w0 w) (o : Obj) : Keep S w0 (w.alloc o) :=
  ⟨h.os, h.tape, h.output, by have := h.size; simp; omega, fun b hb => by
    rw [heap_alloc_old w o b (by have := h.old b hb; have := h.size; omega)]; exact h.block b hb, h.old⟩

theorem RelM.alloc (h : RelM bs ρ S w0 mem w) {c : List AV} {vs : List Value} (ty : TypeId) (g : Option Nat) (cap : Nat) (hc : dvl bs ρ c = some vs)
    (hg : ∀ s, g = some s → vs.length = cap * s ∧ cap ≤ maxLen) :
    RelM (bs ++ [⟨w.heap.size, cap, 0, none, 0⟩]) ρ S w0 (mem ++ [.cells c ty true g]) (w.alloc (.cells vs.toArray ty)) := by
  refine h.push ⟨w.heap.size, cap, 0, none, 0⟩ _ rfl (fun i o ho => .inl ho) (fun i o e ho hl he => ?_) ⟨vs, [], hc, ?_, by simpa using hg, rfl⟩ h.fresh (h.keep.alloc (w' := w) _)
  · obtain ⟨e', he', hr⟩ := h.rel i o ho
    rw [he] at he'; cases he'
    have := hr.lt hl
    exact ⟨heap_alloc_old w _ _ this, by show e.blk ≠ w.heap.size; omega⟩
  · rw [List.append_nil]; exact heap_alloc_new w _

theorem Keep.setRow (h : Keep S w0 w) (g : Nat) (cs : Array Value) (hg : ¬ S g) : Keep S w0 (w.setRow g cs) :=
  ⟨h.os, h.tape, h.output, by have := h.size; simp [World.setRow]; omega, fun b hb => by
    rw [setRow_other w g b cs (fun e => hg (e ▸ hb))]; exact h.block b hb, h.old⟩

theorem one_sound {a : AV} {v : Value} (h : dv bs ρ a = some v) (h1 : a.one = true) : v.oneCell' = true := by
  cases a <;> simp only [AV.one] at h1 <;> first | (cases h1; done) | (obtain ⟨rfl, _⟩ := dv_int h; rfl) | (obtain ⟨rfl, _⟩ := dv_bstr h; rfl) | skip
  all_goals simp only [dv, Option.map_eq_some_iff, Option.some.injEq] at h
  all_goals first
    | (subst h; rfl)
    | (obtain ⟨x, _, rfl⟩ := h; rfl)

theorem ones_sound {l : List AV} {vs : List Value} (h : dvl bs ρ l = some vs) (h1 : l.all AV.one = true) : ∀ v ∈ vs, v.oneCell' = true := by
  intro v hv
  obtain ⟨i, hi⟩ := List.mem_iff_getElem?.1 hv
  have hlen := dvl_length h
  have hlt : i < l.length := by have := (List.getElem?_eq_some_iff.1 hi).1; omega
  obtain ⟨u, hu, hd⟩ := dvl_get h (i := i) (a := l[i]) (by simp [hlt])
  rw [hi] at hu; cases hu
  exact one_sound hd (List.all_eq_true.1 h1 _ (List.getElem_mem hlt))

end
end Go.SX
