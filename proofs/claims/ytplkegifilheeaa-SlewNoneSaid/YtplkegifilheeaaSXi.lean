/- Symbolic execution of the model's code, part 9: what the executor says of a piece of code is so. -/
import Derived.Test.YtplkegifilheeaaSXh
namespace Go.SX
set_option linter.unusedSimpArgs false
set_option linter.unusedVariables false
variable {bs : List Ent} {ρ : Env} {P : Program} {w : World} {S : Nat → Prop} {w0 : World}

structure RelS (bs : List Ent) (ρ : Env) (S : Nat → Prop) (w0 : World) (st : ASt) (a : Act) (w : World) : Prop where
  size : a.tmps.size = st.slots.length
  slot : ∀ (i : Nat) v, st.slots[i]? = some (some v) → dv bs ρ v = some (a.tmps.getD i undef)
  defers : a.defers = []
  mem : RelM bs ρ S w0 st.mem w
  pc : ∀ p ∈ st.pc, evB ρ p.1 = p.2

theorem opd_sound {st : ASt} {a : Act} (h : ∀ (i : Nat) v, st.slots[i]? = some (some v) → dv bs ρ v = some (a.tmps.getD i undef)) (x : Operand) (v : AV) (hx : opd st.slots x = some v) : dv bs ρ v = some (a.eval x) := by
  cases x with
  | tmp t =>
    simp only [opd] at hx
    split at hx
    · rename_i y hy
      subst hx
      exact h t v hy
    · cases hx
  | const c => exact ofV_sound hx
  | global g => cases hx; rfl
  | func f => cases hx; rfl

theorem RelS.put {st : ASt} {a : Act} (h : RelS bs ρ S w0 st a w) (dst : Option Tmp) {v : AV} {z : Value} (hv : dv bs ρ v = some z) : RelS bs ρ S w0 (st.put dst v) (a.put dst z) w := by
  cases dst with
  | none => exact h
  | some d =>
    refine ⟨by simp [Act.put, ASt.put, updS, h.size], ?_, h.defers, h.mem, h.pc⟩
    intro i u hi
    simp only [ASt.put, updS, List.getElem?_set] at hi
    simp only [Act.put, Array.getD_eq_getD_getElem?, Array.getElem?_setIfInBounds]
    split at hi
    · rename_i he
      subst he
      split at hi
      · rename_i hlt
        cases hi
        simp [h.size, hlt, hv]
      · cases hi
    · rename_i he
      simp only [he, if_false]
      simpa using h.slot i u hi

theorem RelS.pcs {st : ASt} {a : Act} (h : RelS bs ρ S w0 st a w) {c : SE} {b : Bool} (hc : evB ρ c = b) : RelS bs ρ S w0 { st with pc := (c, b) :: st.pc } a w :=
  ⟨h.size, h.slot, h.defers, h.mem, fun p hp => by
    rcases List.mem_cons.1 hp with rfl | hp
    · exact hc
    · exact h.pc p hp⟩

theorem impB_sound {d c : SE} {b t : Bool} (hd : evB ρ d = b) (h : impB d b c = some t) : evB ρ c = t := by
  unfold impB at h
  split at h
  · rename_i e lo x e' lo' y h1 h2
    split at h
    · rename_i he
      have he := beqS_eq he
      subst he
      have k1 : if lo = true then x ≤ den ρ e else den ρ e ≤ x := by
        cases b with
        | true => exact (bndT_iff h1).1 hd
        | false => exact (bndF_iff h1).1 hd
      have k2 := bndT_iff (ρ := ρ) h2
      have no : ∀ {p : Prop}, (evB ρ c = true ↔ p) → ¬ p → evB ρ c = false := fun hi hp => by
        cases hb : evB ρ c with
        | false => rfl
        | true => exact absurd (hi.1 hb) hp
      split at h <;> split at h <;> first | (cases h; done) | skip
      all_goals (cases h; simp only [if_true, if_false, Bool.false_eq_true] at k1 k2)
      · exact k2.2 (by omega)
      · exact no k2 (by omega)
      · exact no k2 (by omega)
      · exact k2.2 (by omega)
    · cases h
  · cases h

theorem findPc_sound {c : SE} : ∀ {pc : List (SE × Bool)} {b : Bool}, (∀ p ∈ pc, evB ρ p.1 = p.2) → findPc c pc = some b → evB ρ c = b
  | [], b, h, hf => by cases hf
  | (d, b') :: r, b, h, hf => by
    have h0 := h (d, b') (List.mem_cons_self ..)
    simp only [findPc] at hf
    split at hf
    · rename_i he; have he := beqS_eq he; subst he; cases hf; exact h0
    · split at hf
      · rename_i he
        have he := beqS_eq he
        subst he
        cases hf
        rw [evB_mkNot] at h0
        simp only at h0
        rw [← h0]; simp
      · split at hf
        · rename_i t ht
          cases hf
          exact impB_sound h0 ht
        · exact findPc_sound (fun p hp => h p (List.mem_cons_of_mem _ hp)) hf

variable {I : Nat → Env → Prop} {L : Env → AV → List AObj → Prop}

theorem mkIte_sound {c : SE} {st : ASt} {a : Act} {k : ASt → Bool → Tree} (h : RelS bs ρ S w0 st a w) (ht : (mkIte c st k).holds I L ρ) :
    ∃ st', RelS bs ρ S w0 st' a w ∧ st'.slots = st.slots ∧ st'.mem = st.mem ∧ (k st' (evB ρ c)).holds I L ρ := by
  unfold mkIte at ht
  split at ht
  · exact ⟨st, h, rfl, rfl, ht⟩
  · split at ht
    · rename_i b hb
      rw [findPc_sound h.pc hb]
      exact ⟨st, h, rfl, rfl, ht⟩
    · cases hc : evB ρ c with
      | true => exact ⟨_, h.pcs hc, rfl, rfl, ht.1 hc⟩
      | false => exact ⟨_, h.pcs hc, rfl, rfl, ht.2 hc⟩

theorem mkNeeds_sound : ∀ {reqs : List SE} {st : ASt} {a : Act} {k : ASt → Tree}, RelS bs ρ S w0 st a w → (mkNeeds reqs st k).holds I L ρ →
    ∃ st', RelS bs ρ S w0 st' a w ∧ st'.slots = st.slots ∧ st'.mem = st.mem ∧ (∀ c ∈ reqs, evB ρ c = true) ∧ (k st').holds I L ρ
  | [], st, a, k, h, ht => ⟨st, h, rfl, rfl, (fun _ hc => by cases hc), ht⟩
  | c :: r, st, a, k, h, ht => by
    have fin : ∀ {st1 : ASt}, RelS bs ρ S w0 st1 a w → st1.slots = st.slots → st1.mem = st.mem → evB ρ c = true → (mkNeeds r st1 k).holds I L ρ →
        ∃ st', RelS bs ρ S w0 st' a w ∧ st'.slots = st.slots ∧ st'.mem = st.mem ∧ (∀ d ∈ c :: r, evB ρ d = true) ∧ (k st').holds I L ρ := by
      intro st1 h1 e1 e2 hc ht1
      obtain ⟨st', h2, e3, e4, h3, h4⟩ := mkNeeds_sound h1 ht1
      refine ⟨st', h2, e3.trans e1, e4.trans e2, fun d hd => ?_, h4⟩
      rcases List.mem_cons.1 hd with rfl | hd
      · exact hc
      · exact h3 d hd
    unfold mkNeeds at ht
    split at ht
    · rename_i n
      split at ht
      · exact ht.elim
      · rename_i hn
        exact fin h rfl rfl (by simp [evB, den, hn]) ht
    · split at ht
      · rename_i hb
        exact fin h rfl rfl (findPc_sound h.pc hb) ht
      · exact ht.elim
      · exact fin (h.pcs ht.1) rfl rfl ht.1 ht.2

theorem guard_yes {ops : Array Oper} {st : ASt} {a : Act} {o : Oper} (h : RelS bs ρ S w0 st a w) (hg : guardA ops st.slots o = .yes) : Region.wanted o (yielded ops a.tmps) = true := by
  unfold guardA at hg
  unfold Region.wanted
  split at hg
  · rename_i he; rw [he]
  · rename_i j want he
    rw [he]
    split at hg
    · cases hg
    · rename_i d hd
      split at hg
      · rename_i n hs
        split at hg
        · rename_i hn
          have h1 := h.slot d _ hs
          have hlt : d < a.tmps.size := by rw [h.size]; exact (List.getElem?_eq_some_iff.1 hs).1
          simp only [dv, Option.some.injEq, Array.getD_eq_getD_getElem?] at h1
          have h2 : a.tmps[d]? = some (Value.bool (evB ρ (.lit n))) := by
            rw [Array.getElem?_eq_getElem hlt] at h1 ⊢
            simpa using h1.symm
          simp only [yielded, hd, Option.bind_some, h2, evB, den]
          simpa using hn
        · cases hg
      · cases hg
      · cases hg
      · cases hg

theorem guard_no {ops : Array Oper} {st : ASt} {a : Act} {o : Oper} (h : RelS bs ρ S w0 st a w) (hg : guardA ops st.slots o = .no) : Region.wanted o (yielded ops a.tmps) = false := by
  have pk : pickA st.slots o ≠ .no := by
    unfold pickA
    split
    · split <;> simp
    · simp
  unfold guardA at hg
  unfold Region.wanted
  split at hg
  · exact absurd hg pk
  · rename_i j want he
    rw [he]
    split at hg
    · cases hg
    · rename_i d hd
      split at hg
      · rename_i n hs
        split at hg
        · exact absurd hg pk
        · rename_i hn
          have h1 := h.slot d _ hs
          have hlt : d < a.tmps.size := by rw [h.size]; exact (List.getElem?_eq_some_iff.1 hs).1
          simp only [dv, Option.some.injEq, Array.getD_eq_getD_getElem?] at h1
          have h2 : a.tmps[d]? = some (Value.bool (evB ρ (.lit n))) := by
            rw [Array.getElem?_eq_getElem hlt] at h1 ⊢
            simpa using h1.symm
          simp only [yielded, hd, Option.bind_some, h2, evB, den]
          simpa using hn
      · cases hg
      · rename_i hs
        have h1 := h.slot d _ hs
        have hlt : d < a.tmps.size := by rw [h.size]; exact (List.getElem?_eq_some_iff.1 hs).1
        simp only [dv, dvs, Option.map_some, Option.some.injEq, Array.getD_eq_getD_getElem?] at h1
        have h2 : a.tmps[d]? = some (Value.tuple #[]) := by
          rw [Array.getElem?_eq_getElem hlt] at h1 ⊢
          simpa using h1.symm
        simp [yielded, hd, h2]
      · cases hg

theorem guard_sym {ops : Array Oper} {st : ASt} {o : Oper} {d : Nat} {e : SE} (hg : guardA ops st.slots o = .sym d e) : st.slots[d]? = some (some (.bool e)) := by
  have pk : pickA st.slots o = .sym d e → st.slots[d]? = some (some (.bool e)) := by
    intro hg
    unfold pickA at hg
    split at hg
    · split at hg
      · cases hg
      · rename_i hs; cases hg; exact hs
      · cases hg
    · cases hg
  unfold guardA at hg
  split at hg
  · exact pk hg
  · split at hg
    · cases hg
    · split at hg
      · split at hg
        · exact pk hg
        · cases hg
      · rename_i hs; cases hg; exact hs
      · cases hg
      · cases hg

/-- A truth that is decided stands for what it was. -/
theorem RelS.decide {st st' : ASt} {a : Act} {d : Nat} {e : SE} (h : RelS bs ρ S w0 st' a w) (hs : st'.slots = st.slots) (hd : st.slots[d]? = some (some (.bool e))) :
    RelS bs ρ S w0 (st'.put (some d) (.bool (.lit (ofB (evB ρ e))))) a w := by
  rw [← hs] at hd
  have h1 := h.slot d _ hd
  have h2 := h.put (some d) (v := .bool (.lit (ofB (evB ρ e)))) (z := a.tmps.getD d undef) (by rw [← h1]; simp [dv, evB_lit_ofB])
  have h3 : a.put (some d) (a.tmps.getD d undef) = a := by
    have hlt : d < a.tmps.size := by rw [h.size]; exact (List.getElem?_eq_some_iff.1 hd).1
    show ({ a with tmps := a.tmps.setIfInBounds d (a.tmps.getD d undef) } : Act) = a
    have : a.tmps.setIfInBounds d (a.tmps.getD d undef) = a.tmps := by
      apply Array.ext'
      apply List.ext_getElem?
      intro i
      simp only [Array.toList_setIfInBounds, List.getElem?_set]
      split
      · rename_i he
        subst he
        simp [hlt]
      · rfl
    rw [this]
  rw [h3] at h2
  exact h2

theorem RelM.below {mem : List AObj} {w' : World} (h : RelM bs ρ S w0 mem w) (hb : RowKit.Below w.heap.size w w') : RelM bs ρ S w0 mem w' := by
  refine ⟨h.len, fun i o ho => ?_, h.own, h.apart, ?_⟩
  · obtain ⟨b, hb', hr⟩ := h.rel i o ho
    exact ⟨b, hb', hr.same fun hl => hb.block _ (hr.lt hl)⟩
  · exact ⟨hb.os.trans h.keep.os, hb.tape.trans h.keep.tape, hb.output.trans h.keep.output, Nat.le_trans h.keep.size hb.size,
      fun b hS => by rw [hb.block b (by have := h.keep.old b hS; have := h.keep.size; omega)]; exact h.keep.block b hS, h.keep.old⟩

theorem RelM.drew {mem : List AObj} (h : RelM bs ρ S w0 mem w) : RelM bs ρ S w0 mem { w with drawn := w.drawn + 1 } :=
  h.below ((RowKit.Below.refl _ w).drew)

theorem MRel.mono {mem : List AObj} (ex : List Ent) (h : MRel bs ρ mem w) : MRel (bs ++ ex) ρ mem w := fun i o ho => by
  obtain ⟨b, hb, hr⟩ := h i o ho
  exact ⟨b, by rw [List.getElem?_append_left (List.getElem?_eq_some_iff.1 hb).1]; exact hb, hr.mono ex⟩

/-- What held of some blocks holds, where those that are not struck are as they were. -/
theorem kept_sound {bs0 ex : List Ent} {w1 w' : World} : ∀ {m1 mem : List AObj}, keptM m1 mem = true → MRel bs0 ρ m1 w1 → MRel (bs0 ++ ex) ρ mem w' → MRel bs0 ρ m1 w' := by
  have key : ∀ {m1 mem : List AObj}, keptM m1 mem = true → ∀ (i : Nat) o, m1[i]? = some o → o = .dead ∨ mem[i]? = some o := by
    intro m1
    induction m1 with
    | nil => intro mem _ i o ho; simp at ho
    | cons p r ih =>
      intro mem hk i o ho
      cases mem with
      | nil => cases p <;> simp [keptM] at hk
      | cons q s =>
        cases i with
        | zero =>
          simp only [List.getElem?_cons_zero, Option.some.injEq] at ho
          subst ho
          cases p <;> simp only [keptM, Bool.and_eq_true] at hk
          · exact .inr (by simp [beqO_eq hk.1])
          · exact .inr (by simp [beqO_eq hk.1])
          · exact .inl rfl
        | succ i =>
          have hk' : keptM r s = true := by cases p <;> simp only [keptM, Bool.and_eq_true] at hk <;> first | exact hk.2 | exact hk
          simpa using ih hk' i o (by simpa using ho)
  intro m1 mem hk h1 h2 i o ho
  obtain ⟨b, hb, hr⟩ := h1 i o ho
  refine ⟨b, hb, ?_⟩
  rcases key hk i o ho with rfl | hm
  · trivial
  · obtain ⟨b', hb', hr'⟩ := h2 i o hm
    rw [List.getElem?_append_left (List.getElem?_eq_some_iff.1 hb).1, hb] at hb'
    cases hb'
    cases o with
    | cells c ty own g =>
      obtain ⟨vs, tail, h3, h4, h5⟩ := hr
      obtain ⟨vs', tail', h3', h4', h5'⟩ := hr'
      have := dvl_mono ex h3
      rw [this] at h3'
      cases h3'
      exact ⟨vs, tail', h3, h4', h5'⟩
    | sym n cap row ty => exact hr'
    | dead => trivial

theorem strike_sound {mem : List AObj} (ids : List Nat) (h : MRel bs ρ mem w) : MRel bs ρ (strike mem ids) w := by
  intro i o ho
  simp only [strike, List.getElem?_map, Option.map_eq_some_iff] at ho
  obtain ⟨⟨o', j⟩, hz, ho⟩ := ho
  rw [List.getElem?_zipIdx] at hz
  simp only [Option.map_eq_some_iff, Prod.mk.injEq] at hz
  obtain ⟨o2, ho2, rfl, rfl⟩ := hz
  obtain ⟨b, hb, hr⟩ := h i o2 ho2
  refine ⟨b, hb, ?_⟩
  simp only at ho
  split at ho
  · subst ho; trivial
  · subst ho; exact hr

def resV (tmps : Array Value) : ResultVar → Sem Value
  | .tmp t => pure (tmps.getD t undef)
  | .cell c t => do loadVar t (← asAddr (tmps.getD c undef))
theorem results_eq (fn : Func) (tmps : Array Value) : results fn tmps = (do let vs ← fn.results.mapM (resV tmps); pure (if h : vs.size = 1 then vs[0] else .tuple vs)) := by
  unfold results
  congr 1

theorem resA_sound {st : ASt} {a : Act} {mem : List AObj} (hm : MRel bs ρ mem w) (h : ∀ (i : Nat) v, st.slots[i]? = some (some v) → dv bs ρ v = some (a.tmps.getD i undef)) :
    ∀ {rs : List ResultVar} {l : List AV}, resA P mem st.slots rs = some l → ∃ vs, dvl bs ρ l = some vs ∧
      (rs.mapM (resV a.tmps)).run P w = .ok vs w
  | [], l, hl => by cases hl; exact ⟨[], rfl, rfl⟩
  | .tmp t :: r, l, hl => by
    simp only [resA] at hl
    split at hl
    · rename_i v hv
      simp only [Option.map_eq_some_iff] at hl
      obtain ⟨l', hl', rfl⟩ := hl
      obtain ⟨vs, h1, h2⟩ := resA_sound hm h hl'
      refine ⟨_, by simp only [dvl, h t v hv, h1, Option.bind_some, Option.map_some]; rfl, ?_⟩
      simp only [List.mapM_cons, resV, pure_bind, Sem.run_bind, h2, Result.andThen_ok, Sem.run_pure]
    · cases hl
  | .cell c t :: r, l, hl => by
    simp only [resA] at hl
    split at hl
    · rename_i id off hv
      split at hl
      · rename_i v hload
        simp only [Option.map_eq_some_iff] at hl
        obtain ⟨l', hl', rfl⟩ := hl
        obtain ⟨vs, h1, h2⟩ := resA_sound hm h hl'
        have hc := h c _ hv
        obtain ⟨z, hz, hrun⟩ := loadA_sound (P := P) hm hc hload (fun _ hc => by cases hc)
        simp only [dv, Option.map_eq_some_iff] at hc
        obtain ⟨b, hb, he⟩ := hc
        refine ⟨_, by simp only [dvl, hz, h1, Option.bind_some, Option.map_some]; rfl, ?_⟩
        rw [← he] at hrun
        simp only [Instr.loadAt, Instr.sureAddr, pure_bind] at hrun
        have hA : (asAddr (a.tmps.getD c undef)).run P w = .ok ⟨b.blk, b.base + off, none⟩ w := by rw [← he]; rfl
        simp only [List.mapM_cons, resV, Sem.run_bind, hA, Sem.run_pure, Result.andThen_ok, hrun, h2]
      · cases hl
    · cases hl

theorem resultA_sound {fn : Func} {st : ASt} {a : Act} {v : AV} (h : RelS bs ρ S w0 st a w) (hr : resultA P fn st = some v) : ∃ z, dv bs ρ v = some z ∧ (results fn a.tmps).run P w = .ok z w := by
  simp only [resultA, Option.map_eq_some_iff] at hr
  obtain ⟨l, hl, hv⟩ := hr
  obtain ⟨vs, h1, h2⟩ := resA_sound h.mem.rel h.slot hl
  have hlen := dvl_length h1
  have hrun : (results fn a.tmps).run P w = .ok (if h : vs.length = 1 then vs[0] else .tuple vs.toArray) w := by
    rw [results_eq, Array.mapM_eq_mapM_toList]
    simp only [Sem.run_bind, Sem.run_map, Sem.run_pure, h2]
    simp only [Result.andThen_ok, List.size_toArray]
    congr 1
  split at hv
  · rename_i u
    subst hv
    simp only [dvl, Option.bind_eq_some_iff, Option.map_eq_some_iff, Option.some.injEq] at h1
    obtain ⟨z, hz, us, rfl, rfl⟩ := h1
    exact ⟨z, hz, by simpa using hrun⟩
  · rename_i hne
    subst hv
    refine ⟨.tuple vs.toArray, by simp [dv, dvs_ofList, h1], ?_⟩
    have : vs.length ≠ 1 := by
      rw [hlen]
      intro h3
      obtain ⟨u, hu⟩ := List.length_eq_one_iff.1 h3
      exact hne u hu
    rw [dif_neg this] at hrun
    exact hrun

theorem allOf_holds {f : Nat → Tree} : ∀ {l : List Nat}, (allOf f l).holds I L ρ → ∀ i ∈ l, (f i).holds I L ρ
  | [], h, i, hi => by cases hi
  | [j], h, i, hi => by simp at hi; subst hi; exact h
  | j :: k :: r, h, i, hi => by
    rcases List.mem_cons.1 hi with rfl | hi
    · exact h.1
    · exact allOf_holds (l := k :: r) h.2 i hi

end Go.SX
