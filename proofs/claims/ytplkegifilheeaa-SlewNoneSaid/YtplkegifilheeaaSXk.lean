/- Symbolic execution of the model's code, part 11: the theorem. -/
import Derived.Test.YtplkegifilheeaaSXj
namespace Go.SX
open Go.Proofs.YtplkegifilheeaaW.PrintLast
set_option linter.unusedSimpArgs false
set_option linter.unusedVariables false
variable {P : Program} {S : Nat → Prop} {w0 : World}

structure CfgOk (P : Program) (cfg : Cfg) (F : Nat → List Int → Int) : Prop where
  mixed : P.follows .mixedOrders = true
  names : ∀ f ∈ cfg.ok, ∃ fn, P.funcs[f]? = some fn ∧ (fn.name == "runtime.NumGoroutine") = false ∧ fn.body.isSome = true
  sums : ∀ f args v, cfg.sums f args = some v → ∀ (bs : List Ent) (ρ : Env) (w : World) (vs : List Value), ρ.f = F → dvl bs ρ args = some vs →
    ∃ z, dv bs ρ v = some z ∧ Calls P f vs.toArray w fun e w' => e = .returned z ∧ RowKit.Below w.heap.size w w'

def Task.wp (P : Program) (SW TW : World → Prop) (Q : Exit → Act → World → Prop) (n : Nat) : Task → Act → World → Prop
  | .code c, a, w => c.wp P Q a w
  | .rounds c, a, w => Code.rounds P c Q n a w
  | .ops os l, a, w => wpOps P os Q l a w
  | .draw os ds _ _ _ listed m, a, w => wpTwo P os Q SW TW ds m listed a w
  | .oper os i, a, w => wpOp P os Q i (fun a' w' => Q .normal a' w') a w

theorem run_callFunc {f : FuncId} {fn : Func} (hf : P.funcs[f]? = some fn) (hn : (fn.name == "runtime.NumGoroutine") = false) (hb : fn.body.isSome = true) (args : Array Value) (w : World) :
    (callFunc f args).run P w = .ok (.enter f args) w := by
  have h1 : fn.name ≠ "runtime.NumGoroutine" := by simpa using hn
  obtain ⟨c, hc⟩ := Option.isSome_iff_exists.1 hb
  simp [callFunc, hf, h1, hc]

theorem callA_sound {bs : List Ent} {ρ : Env} {ev : Operand → Option AV} {e : Operand → Value} (hev : ∀ x a, ev x = some a → dv bs ρ a = some (e x)) {o : Oper} {f : FuncId} {args : List AV} (h : callA ev o.op = some (f, args)) :
    ∃ vs, dvl bs ρ args = some vs ∧ ∀ w, (execOp e o).run P w = (callFunc f vs.toArray).run P w := by
  obtain ⟨dst, op, type, pos, after, guard⟩ := o
  simp only at h
  unfold callA at h
  split at h
  · rename_i c
    split at h
    · rename_i fo hcal
      split at h
      · rename_i g cap hfo
        simp only [Option.map_eq_some_iff, Prod.mk.injEq] at h
        obtain ⟨l, hl, rfl, rfl⟩ := h
        have h1 := evs_sound hev hl
        have h2 := hev _ _ hfo
        simp only [dv, Option.map_eq_some_iff] at h2
        obtain ⟨vs, hvs, h2⟩ := h2
        refine ⟨_, dvl_append h1 (dvl_members cap hvs), fun w => ?_⟩
        have : c.args.map e = (c.args.toList.map e).toArray := by apply Array.ext'; simp
        simp only [execOp, resolve, hcal, ← h2, Deferred.ofValue, pure_bind, invoke, this]
        congr 2
        simp
      · cases h
    · cases h
  · cases h

theorem wpOp_swap {ops : Array Oper} {i : Nat} {K : Act → World → Prop} {Q Q' : Exit → Act → World → Prop} {a : Act} {w : World} (h : wpOp P ops Q i K a w) (hQ : ∀ c a w, ¬ Q (.panic c) a w)
    (ho : ∀ a w, Q .outgrown a w → Q' .outgrown a w) : wpOp P ops Q' i K a w := by
  unfold wpOp at *
  split
  · simpa [*] using h
  · rename_i o hoo
    simp only [hoo] at h
    have hl : LetsOut Q → LetsOut Q' := fun ⟨a, w, h⟩ => ⟨a, w, ho a w h⟩
    split
    · rename_i hw
      simp only [hw, if_true] at h
      rcases h with h | ⟨h1, h2⟩
      · left
        unfold Oper.wp at *
        generalize (execOp a.eval o).run P w = r at *
        cases r with
        | ok n w' =>
          cases n <;> simp only [Oper.upon] at h ⊢ <;> first | exact h | skip
          exact Calls.mono h fun e w'' he => by
            cases e with
            | returned v => exact he
            | panicked c => exact absurd he (hQ _ _ _)
            | outgrown => exact hl he
        | halt x w' =>
          cases x <;> simp only [Oper.upon] at h ⊢ <;> first | exact h | exact absurd h (hQ _ _ _)
      · exact .inr ⟨h1, hl h2⟩
    · rename_i hw
      simp only [hw] at h
      exact h

variable {I : Nat → Env → Prop} {L : Env → AV → List AObj → Prop} {cfg : Cfg} {F : Nat → List Int → Int}

theorem slots_map (args : List AV) (vs : List Value) (k : Nat) {bs : List Ent} {ρ : Env} (h : dvl bs ρ args = some vs) :
    ∀ (i : Nat) v, (args.map some ++ List.replicate k (some (.tuple .nil)))[i]? = some (some v) → dv bs ρ v = some ((vs.toArray ++ Array.replicate k undef).getD i undef) := by
  intro i v hv
  have hl := dvl_length h
  rw [List.getElem?_append] at hv
  simp only [Array.getD_eq_getD_getElem?, Array.getElem?_append, List.size_toArray]
  split at hv
  · rename_i hi
    rw [List.getElem?_map, Option.map_eq_some_iff] at hv
    obtain ⟨x, hx, hv⟩ := hv
    cases hv
    obtain ⟨u, hu, hd⟩ := dvl_get h hx
    simp only [List.length_map] at hi
    rw [if_pos (by omega), List.getElem?_toArray, hu, hd]
    rfl
  · rename_i hi
    simp only [List.length_map, List.getElem?_replicate] at hi hv
    split at hv
    · rename_i hk
      cases hv
      rw [if_neg (by omega)]
      simp only [hl, Array.getElem?_replicate, hk, if_true, Option.getD_some]
      rfl
    · cases hv

theorem RelS.eff {bs ex : List Ent} {ρ : Env} {st : ASt} {a : Act} {w w' : World} {mem' : List AObj} (h : RelS bs ρ S w0 st a w) (hm : RelM (bs ++ ex) ρ S w0 mem' w') :
    RelS (bs ++ ex) ρ S w0 { st with mem := mem' } a w' :=
  ⟨h.size, fun i v hv => dv_mono ex v (h.slot i v hv), h.defers, hm, h.pc⟩

theorem tryEarly_take {st : ASt} {ops : Array Oper} {ds : List Nat} {m0 m1 : List AObj} {kS : Bool} {listed l' : Array Bool} {i j : Nat} {dst : Option Tmp} {reqs : List SE} {v : AV}
    (h : tryEarly P st ops ds m0 m1 kS listed i = .take j dst reqs v l') : ∃ o, ops[i]? = some o ∧ dst = o.dst ∧
      ((guardA ops st.slots o = .no ∧ anyB .any ops listed l' i = true ∧ v = .tuple .nil) ∨
       (guardA ops st.slots o = .yes ∧ anyB .any ops listed l' i = true ∧ pureA P m1 (opd st.slots) o.op = some (reqs, v)) ∨
       (guardA ops st.slots o = .yes ∧ kS = true ∧ takeB .any ops ds listed l' i = true ∧ pureA P m0 (opd st.slots) o.op = some (reqs, v))) := by
  unfold tryEarly at h
  split at h
  · cases h
  · rename_i o ho
    refine ⟨o, ho, ?_⟩
    split at h
    · cases h
    · cases h
    · rename_i hg
      split at h
      · rename_i hc
        cases h
        exact ⟨rfl, .inl ⟨hg, hc, rfl⟩⟩
      · cases h
    · rename_i hg
      split at h
      · rename_i r v' hp
        split at h
        · rename_i hc
          cases h
          exact ⟨rfl, .inr (.inl ⟨hg, hc, hp⟩)⟩
        · cases h
      · split at h
        · rename_i hk
          split at h
          · rename_i r v' hp
            split at h
            · rename_i hc
              cases h
              exact ⟨rfl, .inr (.inr ⟨hg, hk, hc, hp⟩)⟩
            · cases h
          · cases h
        · cases h
theorem tryEarly_split {st : ASt} {ops : Array Oper} {ds : List Nat} {m0 m1 : List AObj} {kS : Bool} {listed : Array Bool} {i d : Nat} {e : SE}
    (h : tryEarly P st ops ds m0 m1 kS listed i = .split d e) : st.slots[d]? = some (some (.bool e)) := by
  unfold tryEarly at h
  split at h
  · cases h
  · rename_i o ho
    split at h
    · cases h
    · rename_i hg
      cases h
      exact guard_sym hg
    · split at h <;> cases h
    · split at h
      · split at h <;> cases h
      · split at h
        · split at h
          · split at h <;> cases h
          · cases h
        · cases h
theorem findEarly_take {st : ASt} {ops : Array Oper} {ds : List Nat} {m0 m1 : List AObj} {kS : Bool} {listed l' : Array Bool} {j : Nat} {dst : Option Tmp} {reqs : List SE} {v : AV} :
    ∀ {rs : List Nat}, findEarly P st ops ds m0 m1 kS listed rs = .take j dst reqs v l' → ∃ i, tryEarly P st ops ds m0 m1 kS listed i = .take j dst reqs v l'
  | [], h => by cases h
  | i :: r, h => by
    unfold findEarly at h
    split at h
    · exact findEarly_take h
    · exact ⟨i, h⟩
theorem findEarly_split {st : ASt} {ops : Array Oper} {ds : List Nat} {m0 m1 : List AObj} {kS : Bool} {listed : Array Bool} {d : Nat} {e : SE} :
    ∀ {rs : List Nat}, findEarly P st ops ds m0 m1 kS listed rs = .split d e → ∃ i, tryEarly P st ops ds m0 m1 kS listed i = .split d e
  | [], h => by cases h
  | i :: r, h => by
    unfold findEarly at h
    split at h
    · exact findEarly_split h
    · exact ⟨i, h⟩

/-- How the letters and the blocks behind a piece of code stand to those before it. -/
def Then (top : Option (List Nat)) (ρ ρ' : Env) (bs bs' : List Ent) : Prop :=
  match top with
  | none => ρ' = ρ ∧ ∃ e, bs' = bs ++ e
  | some ks => ∀ k ∈ ks, ρ'.v (1000 + k) = ρ.v (1000 + k)
theorem Then.refl (top : Option (List Nat)) (ρ : Env) (bs : List Ent) : Then top ρ ρ bs bs := by
  cases top with
  | none => exact ⟨rfl, [], by simp⟩
  | some ks => exact fun _ _ => rfl
theorem Then.trans {top : Option (List Nat)} {ρ ρ1 ρ2 : Env} {bs bs1 bs2 : List Ent} (h : Then top ρ ρ1 bs bs1) (h' : Then top ρ1 ρ2 bs1 bs2) : Then top ρ ρ2 bs bs2 := by
  cases top with
  | none =>
    obtain ⟨rfl, e, rfl⟩ := h
    obtain ⟨rfl, e', rfl⟩ := h'
    exact ⟨rfl, e ++ e', by simp⟩
  | some ks => exact fun k hk => (h' k hk).trans (h k hk)
theorem Then.of_none {top : Option (List Nat)} {ρ ρ' : Env} {bs bs' : List Ent} (h : Then none ρ ρ' bs bs') : Then top ρ ρ' bs bs' := by
  cases top with
  | none => exact h
  | some ks => obtain ⟨rfl, _⟩ := h; exact fun _ _ => rfl
theorem subV_low {θ : List (Nat × SE)} {i : Nat} (hi : 1000 ≤ i) (h : θ.all (fun p => p.1 < 1000) = true) : subV θ i = .var i := by
  induction θ with
  | nil => rfl
  | cons p r ih =>
    simp only [List.all_cons, Bool.and_eq_true, decide_eq_true_eq] at h
    obtain ⟨j, e⟩ := p
    simp only [subV]
    rw [if_neg (by simp only at h; omega)]
    exact ih h.2
theorem sub_v {sp : LoopSpec} {st : ASt} {θ : List (Nat × SE)} (hθ : bindAll sp st = θ) (hl : lowKeys θ = true) (ρ : Env) {k : Nat} (hk : k ≠ sp.key) : (ρ.sub θ).v (1000 + k) = ρ.v (1000 + k) := by
  subst hθ
  show den ρ (subV _ (1000 + k)) = _
  simp only [bindAll] at hl ⊢
  simp only [lowKeys] at hl
  simp only [subV]
  rw [if_neg (by omega), subV_low (by omega) hl]
  rfl

theorem run_sound (hcfg : CfgOk P cfg F) : ∀ (n : Nat) (top : Option (List Nat)) (t : Task) (st : ASt) (K : AExit → ASt → Tree) (bs : List Ent) (ρ : Env) (a : Act) (w : World) (Q : Exit → Act → World → Prop) (SW TW : World → Prop),
    RelS bs ρ S w0 st a w → ρ.f = F → (run P cfg n top t st K).holds I L ρ →
    (∀ (ρ' : Env) (ex : AExit) (bs' : List Ent) (st' : ASt) (a' : Act) (w' : World), Then top ρ ρ' bs bs' → ρ'.f = F → RelS bs' ρ' S w0 st' a' w' → (K ex st').holds I L ρ' → Q ex.conc a' w') →
    (∀ c a w, ¬ Q (.panic c) a w) →
    (∀ ops ds m0 m1 kS l m, t = .draw ops ds m0 m1 kS l m → ∃ bs0 e w1, bs = bs0 ++ e ∧ SW = (fun w' => MRel bs0 ρ m0 w') ∧ TW = (fun w' => MRel bs0 ρ m1 w') ∧ MRel bs0 ρ m0 w1 ∧ MRel bs0 ρ m1 w1 ∧ TW w ∧ (kS = true → SW w)) →
    t.wp P SW TW Q n a w := by
  intro n
  induction n with
  | zero =>
    intro top t st K bs ρ a w Q SW TW _ _ hT _ _ _
    cases t <;> exact hT.elim
  | succ n ih =>
    intro top t st K bs ρ a w Q SW TW hR hρ hT hK hP hD
    cases t with
    | code c =>
      show c.wp P Q a w
      have hrefl := Then.refl top ρ bs
      cases c with
      | skip => exact wp_skip (hK ρ .normal bs st a w hrefl hρ hR (by simpa [run] using hT))
      | label l => exact wp_label (hK ρ .normal bs st a w hrefl hρ hR (by simpa [run] using hT))
      | ret => exact wp_ret (hK ρ .ret bs st a w hrefl hρ hR (by simpa [run] using hT))
      | exit id => exact wp_exit (hK ρ (.exit id) bs st a w hrefl hρ hR (by simpa [run] using hT))
      | seq x y =>
        simp only [run] at hT
        refine wp_seq (ih top (.code x) st _ bs ρ a w _ (fun _ => True) (fun _ => True) hR hρ hT ?_ (fun c a w h => hP c a w h) (fun _ _ _ _ _ _ _ h => by cases h))
        intro ρ' ex bs' st' a' w' hx hf hR' hT'
        cases ex with
        | normal =>
          exact ih top (.code y) st' K bs' ρ' a' w' Q (fun _ => True) (fun _ => True) hR' hf hT' (fun ρ2 ex2 bs2 st2 a2 w2 hx2 => hK ρ2 ex2 bs2 st2 a2 w2 (hx.trans hx2)) hP (fun _ _ _ _ _ _ _ h => by cases h)
        | exit id => exact hK ρ' (.exit id) bs' st' a' w' hx hf hR' hT'
        | ret => exact hK ρ' .ret bs' st' a' w' hx hf hR' hT'
      | cond c x y =>
        simp only [run] at hT
        split at hT
        · rename_i e he
          have he' := boolOf_some he
          have hc := opd_sound hR.slot c _ he'
          simp only [dv, Option.some.injEq] at hc
          obtain ⟨st', hR', e1, e2, hT'⟩ := mkIte_sound hR hT
          refine wp_cond hc.symm ?_
          have := ih top (.code (if evB ρ e = true then x else y)) st' K bs ρ a w Q (fun _ => True) (fun _ => True) hR' hρ hT' hK hP (fun _ _ _ _ _ _ _ h => by cases h)
          exact this
        · exact hT.elim
      | block id c =>
        simp only [run] at hT
        refine wp_block (ih top (.code c) st _ bs ρ a w _ (fun _ => True) (fun _ => True) hR hρ hT ?_ (fun c a w h => hP c a w h) (fun _ _ _ _ _ _ _ h => by cases h))
        intro ρ' ex bs' st' a' w' hx hf hR' hT'
        cases ex with
        | normal => exact hK ρ' .normal bs' st' a' w' hx hf hR' hT'
        | ret => exact hK ρ' .ret bs' st' a' w' hx hf hR' hT'
        | exit id' =>
          show if id' = id then Q .normal a' w' else Q (.exit id') a' w'
          simp only at hT'
          split at hT'
          · rename_i he; rw [if_pos he]; exact hK ρ' .normal bs' st' a' w' hx hf hR' hT'
          · rename_i he; rw [if_neg he]; exact hK ρ' (.exit id') bs' st' a' w' hx hf hR' hT'
      | scope c =>
        simp only [run] at hT
        refine wp_scope_straight (ih top (.code c) st K bs ρ a w _ (fun _ => True) (fun _ => True) hR hρ hT ?_ (fun c a w h => hP c a w h) (fun _ _ _ _ _ _ _ h => by cases h))
        intro ρ' ex bs' st' a' w' hx hf hR' hT'
        have := hK ρ' ex bs' st' a' w' hx hf hR' hT'
        cases ex <;> exact this
      | region id ops draw =>
        cases draw with
        | false =>
          simp only [run] at hT
          have := ih none (.ops ops (List.range ops.size)) st K bs ρ a w Q (fun _ => True) (fun _ => True) hR hρ hT (fun ρ' ex bs' st' a' w' hx => hK ρ' ex bs' st' a' w' hx.of_none) hP (fun _ _ _ _ _ _ _ h => by cases h)
          exact wp_region this
        | true =>
          simp only [run] at hT
          have hR' : RelS bs ρ S w0 st a { w with drawn := w.drawn + 1 } := ⟨hR.size, hR.slot, hR.defers, hR.mem.drew, hR.pc⟩
          have hm1 := strike_sound (guessS P st.mem ops.toList st.slots) hR'.mem.rel
          have := ih none _ st K bs ρ a { w with drawn := w.drawn + 1 } Q (fun w' => MRel bs ρ st.mem w') (fun w' => MRel bs ρ (strike st.mem (guessS P st.mem ops.toList st.slots)) w') hR' hρ hT (fun ρ' ex bs' st' a' w' hx => hK ρ' ex bs' st' a' w' hx.of_none) hP
            (fun ops' ds m0 m1 kS l m he => by
              simp only [Task.draw.injEq] at he
              obtain ⟨rfl, rfl, rfl, rfl, rfl, rfl, rfl⟩ := he
              exact ⟨bs, [], _, by simp, rfl, rfl, hR'.mem.rel, hm1, hm1, fun _ => hR'.mem.rel⟩)
          exact wp_region_two hcfg.mixed this
      | loop c =>
        simp only [run] at hT
        split at hT
        · rename_i ks sp hsp
          simp only [Option.bind_eq_some_iff] at hsp
          obtain ⟨ks', rfl, sp', _, hsp⟩ := hsp
          split at hsp
          · cases hsp
          · rename_i hnot
            cases hsp
            have hne : ∀ k ∈ ks, k ≠ sp.key := fun k hk he => hnot (by rw [← he]; simpa using hk)
            split at hT
            · rename_i hfit
              simp only [Bool.and_eq_true] at hfit
              obtain ⟨hpc, hT⟩ := mkFacts_sound hT
              obtain ⟨hI, hbody⟩ := hT
              generalize hh : headOf sp st = h at *
              generalize hθ : bindAll sp st = θ at *
              let J : Nat → Act → World → Prop := fun m a w => ∃ (ρ' : Env) (bs' : List Ent), ρ'.f = F ∧ I sp.key ρ' ∧ RelS bs' ρ' S w0 h a w ∧ m = (ρ'.v (1000 + sp.key)).toNat ∧ ∀ k ∈ ks, ρ'.v (1000 + k) = ρ.v (1000 + k)
              refine wp_loop_nat J (n := ((ρ.sub θ).v (1000 + sp.key)).toNat) ?_ ⟨ρ.sub θ, _, hρ, hI, fit_sound hfit.1 hR hpc, rfl, fun k hk => sub_v hθ hfit.2 ρ (hne k hk)⟩
              rintro m a1 w1 ⟨ρ1, bs1, hf1, hI1, hR1, rfl, hz1⟩
              refine ih (some (sp.key :: ks)) (.code c) h _ bs1 ρ1 a1 w1 _ (fun _ => True) (fun _ => True) hR1 hf1 (hbody ρ1 (hf1.trans hρ.symm) hI1) ?_ (fun c a w h => hP c a w h) (fun _ _ _ _ _ _ _ h => by cases h)
              intro ρ' ex bs' st' a' w' hx hf hR' hT'
              have hout : Then (some ks) ρ ρ' bs bs' := fun k hk => (hx k (List.mem_cons_of_mem _ hk)).trans (hz1 k hk)
              cases ex with
              | normal =>
                simp only at hT'
                split at hT'
                · rename_i hfit'
                  simp only [Bool.and_eq_true] at hfit'
                  obtain ⟨hpc', hT'⟩ := mkFacts_sound hT'
                  obtain ⟨hI', hlt⟩ := hT'
                  rw [hx sp.key (List.mem_cons_self ..)] at hlt
                  exact ⟨_, hlt, ρ'.sub (bindAll sp st'), _, hf, hI', fit_sound hfit'.1 hR' hpc', rfl, fun k hk => (sub_v rfl hfit'.2 ρ' (hne k hk)).trans (hout k hk)⟩
                · exact hT'.elim
              | exit id => exact hK ρ' (.exit id) bs' st' a' w' hout hf hR' hT'
              | ret => exact hK ρ' .ret bs' st' a' w' hout hf hR' hT'
            · exact hT.elim
        · have := ih top (.rounds c) st K bs ρ a w Q (fun _ => True) (fun _ => True) hR hρ hT hK hP (fun _ _ _ _ _ _ _ h => by cases h)
          exact wp_loop_rounds n this
      | rangeFunc f p x y => simp only [run] at hT; exact hT.elim
      | goto l => simp only [run] at hT; exact hT.elim
      | refuse why => simp only [run] at hT; exact hT.elim
    | rounds c =>
      simp only [run] at hT
      show c.wp P (Exit.then (Code.rounds P c Q n) Q) a w
      refine ih top (.code c) st _ bs ρ a w _ (fun _ => True) (fun _ => True) hR hρ hT ?_ (fun c a w h => hP c a w h) (fun _ _ _ _ _ _ _ h => by cases h)
      intro ρ' ex bs' st' a' w' hx hf hR' hT'
      cases ex with
      | normal =>
        exact ih top (.rounds c) st' K bs' ρ' a' w' Q (fun _ => True) (fun _ => True) hR' hf hT' (fun ρ2 ex2 bs2 st2 a2 w2 hx2 => hK ρ2 ex2 bs2 st2 a2 w2 (hx.trans hx2)) hP (fun _ _ _ _ _ _ _ h => by cases h)
      | exit id => exact hK ρ' (.exit id) bs' st' a' w' hx hf hR' hT'
      | ret => exact hK ρ' .ret bs' st' a' w' hx hf hR' hT'
    | ops os l =>
      cases l with
      | nil =>
        simp only [run] at hT
        exact hK ρ .normal bs st a w (Then.refl _ _ _) hρ hR hT
      | cons i r =>
        simp only [run] at hT
        show wpOps P os Q (i :: r) a w
        rw [wpOps_cons]
        refine wpOp_swap (Q := Exit.then (wpOps P os Q r) Q) (ih none (.oper os i) st _ bs ρ a w (Exit.then (wpOps P os Q r) Q) (fun _ => True) (fun _ => True) hR hρ hT ?_ (fun c a w h => hP c a w h) (fun _ _ _ _ _ _ _ h => by cases h)) (fun c a w h => hP c a w h) (fun a w h => h)
        intro ρ' ex bs' st' a' w' hx hf hR' hT'
        cases ex with
        | normal =>
          exact ih none (.ops os r) st' K bs' ρ' a' w' Q (fun _ => True) (fun _ => True) hR' hf hT' (fun ρ2 ex2 bs2 st2 a2 w2 hx2 => hK ρ2 ex2 bs2 st2 a2 w2 (hx.trans hx2).of_none) hP (fun _ _ _ _ _ _ _ h => by cases h)
        | exit id => exact hT'.elim
        | ret => exact hT'.elim
    | draw os ds m0 m1 kS listed m =>
      obtain ⟨bs0, e0, w1, hbs, hSW, hTW, hM0, hM1, hTw, hSk⟩ := hD _ _ _ _ _ _ _ rfl
      have hPQ : ∀ (dst : Option Tmp) (z : Value) (c : List PanicEntry) (a : Act) (w : World), Q (.panic c) (a.put dst z) w → Q (.panic c) a w := fun _ _ c a w h => absurd h (hP _ _ _)
      simp only [run] at hT
      split at hT
      · rename_i hr
        have hq := hK ρ .normal bs st a w (Then.refl _ _ _) hρ hR hT
        show wpTwo P os Q SW TW ds m listed a w
        cases m with
        | zero => exact ⟨hr, hq⟩
        | succ m => exact ⟨fun _ => hq, by rw [hr]; simp⟩
      · rename_i hne
        cases m with
        | zero => exact hT.elim
        | succ m =>
          simp only at hT
          show wpTwo P os Q SW TW ds (m + 1) listed a w
          split at hT
          · rename_i j dst reqs v l' hfe
            obtain ⟨i, hte⟩ := findEarly_take hfe
            obtain ⟨o, ho, rfl, hcase⟩ := tryEarly_take hte
            obtain ⟨st', hR', e1, e2, hreq, hT'⟩ := mkNeeds_sound hR hT
            have next : ∀ {z : Value}, dv bs ρ v = some z → wpTwo P os Q SW TW ds m l' (a.put o.dst z) w := fun {z} hz =>
              ih none (.draw os ds m0 m1 kS l' m) (st'.put o.dst v) K bs ρ (a.put o.dst z) w Q SW TW (hR'.put o.dst hz) hρ hT' (fun ρ2 ex2 bs2 st2 a2 w2 hx2 => hK ρ2 ex2 bs2 st2 a2 w2 hx2.of_none) hP
                (fun _ _ _ _ _ _ _ he => by simp only [Task.draw.injEq] at he; obtain ⟨rfl, rfl, rfl, rfl, rfl, rfl, rfl⟩ := he; exact ⟨bs0, e0, w1, hbs, hSW, hTW, hM0, hM1, hTw, hSk⟩)
            rcases hcase with ⟨hg, hc, rfl⟩ | ⟨hg, hc, hp⟩ | ⟨hg, hk, hc, hp⟩
            · exact wpTwo_any ho rfl hc (fun c a w h => absurd h (hP _ _ _)) (.inr ⟨guard_no hR hg, rfl⟩) hTw (next rfl)
            · obtain ⟨z, hz, _⟩ := pureA_sound (P := P) (opd_sound hR.slot) (by rw [hTW] at hTw; rw [hbs]; exact hTw.mono e0) hp hreq
              refine wpTwo_any ho rfl hc (fun c a w h => absurd h (hP _ _ _)) (.inl ⟨guard_yes hR hg, fun w' hw' => ?_⟩) hTw (next hz)
              obtain ⟨z', hz', hrun⟩ := pureA_sound (P := P) (opd_sound hR.slot) (by rw [hTW] at hw'; rw [hbs]; exact hw'.mono e0) hp hreq
              rw [hz] at hz'; cases hz'
              exact hrun
            · have hSw : SW w := hSk hk
              obtain ⟨z, hz, _⟩ := pureA_sound (P := P) (opd_sound hR.slot) (by rw [hSW] at hSw; rw [hbs]; exact hSw.mono e0) hp hreq
              refine wpTwo_take ho rfl hc (fun c a w h => absurd h (hP _ _ _)) (.inl ⟨guard_yes hR hg, fun w' hw' => ?_⟩) hSw (next hz)
              obtain ⟨z', hz', hrun⟩ := pureA_sound (P := P) (opd_sound hR.slot) (by rw [hSW] at hw'; rw [hbs]; exact hw'.mono e0) hp hreq
              rw [hz] at hz'; cases hz'
              exact hrun
          · rename_i d e hfe
            obtain ⟨i, hte⟩ := findEarly_split hfe
            obtain ⟨st', hR', e1, e2, hT'⟩ := mkIte_sound hR hT
            exact ih none (.draw os ds m0 m1 kS listed (m + 1)) _ K bs ρ a w Q SW TW (hR'.decide e1 (tryEarly_split hte)) hρ hT' (fun ρ2 ex2 bs2 st2 a2 w2 hx2 => hK ρ2 ex2 bs2 st2 a2 w2 hx2.of_none) hP
              (fun _ _ _ _ _ _ _ he => by simp only [Task.draw.injEq] at he; obtain ⟨rfl, rfl, rfl, rfl, rfl, rfl, rfl⟩ := he; exact ⟨bs0, e0, w1, hbs, hSW, hTW, hM0, hM1, hTw, hSk⟩)
          · have hall := allOf_holds hT
            refine ⟨fun h => absurd h hne, fun i hi => ?_⟩
            let Kw : Act → World → Prop := fun a' w' => ((i ∉ ds → SW w → SW w') ∧ (TW w → TW w')) ∧ wpTwo P os Q SW TW ds m (listed.setIfInBounds i true) a' w'
            refine wpOp_swap (Q := Exit.then Kw Q) (ih none (.oper os i) st _ bs ρ a w (Exit.then Kw Q) (fun _ => True) (fun _ => True) hR hρ (hall i hi) ?_ (fun c a w h => hP c a w h) (fun _ _ _ _ _ _ _ h => by cases h)) (fun c a w h => hP c a w h) (fun a w h => h)
            intro ρ' ex bs' st' a' w' hx hf hR' hT'
            obtain ⟨rfl, e1, hbs'⟩ := hx
            have hbs2 : bs' = bs0 ++ (e0 ++ e1) := by rw [hbs', hbs, List.append_assoc]
            cases ex with
            | normal =>
              simp only at hT'
              split at hT'
              · rename_i hc
                simp only [Bool.and_eq_true, Bool.or_eq_true] at hc
                have hTw' : TW w' := by
                  rw [hTW]
                  exact kept_sound hc.1 hM1 (by rw [← hbs2]; exact hR'.mem.rel)
                have hSw' : keptM m0 st'.mem = true → SW w' := fun h0 => by
                  rw [hSW]
                  exact kept_sound h0 hM0 (by rw [← hbs2]; exact hR'.mem.rel)
                refine ⟨⟨fun hnot _ => ?_, fun _ => hTw'⟩, ?_⟩
                · rcases hc.2 with h0 | h0
                  · exact absurd (by simpa using h0) hnot
                  · exact hSw' h0
                · exact ih none (.draw os ds m0 m1 (keptM m0 st'.mem) (listed.setIfInBounds i true) m) st' K bs' ρ' a' w' Q SW TW hR' hf hT' (fun ρ2 ex2 bs2 st2 a2 w2 hx2 => hK ρ2 ex2 bs2 st2 a2 w2 (Then.trans (top := none) ⟨rfl, e1, hbs'⟩ hx2).of_none) hP
                    (fun _ _ _ _ _ _ _ he => by simp only [Task.draw.injEq] at he; obtain ⟨rfl, rfl, rfl, rfl, rfl, rfl, rfl⟩ := he; exact ⟨bs0, e0 ++ e1, w1, hbs2, hSW, hTW, hM0, hM1, hTw', hSw'⟩)
              · exact hT'.elim
            | exit id => exact hT'.elim
            | ret => exact hT'.elim
    | oper os i =>
      simp only [run] at hT
      show wpOp P os Q i (fun a' w' => Q .normal a' w') a w
      split at hT
      · exact hT.elim
      · rename_i o ho
        have hrefl := Then.refl top ρ bs
        have unf : (if Region.wanted o (yielded os a.tmps) = true then o.wp P a w (fun a' w' => Q .normal a' w') Q else Q .normal (a.put o.dst undef) w) → wpOp P os Q i (fun a' w' => Q .normal a' w') a w := by
          intro h
          unfold wpOp
          simp only [ho]
          split at h
          · rename_i hw; simp only [hw, if_true]; exact .inl h
          · rename_i hw; simp only [hw]; exact h
        split at hT
        · exact hT.elim
        · rename_i hg
          refine unf ?_
          rw [guard_no hR hg]
          exact hK ρ .normal bs _ _ w hrefl hρ (hR.put o.dst (v := .tuple .nil) (z := undef) rfl) hT
        · rename_i d e hg
          obtain ⟨st', hR', e1, e2, hT'⟩ := mkIte_sound hR hT
          exact ih none (.oper os i) _ K bs ρ a w Q (fun _ => True) (fun _ => True) (hR'.decide e1 (guard_sym hg)) hρ hT' (fun ρ2 ex2 bs2 st2 a2 w2 hx2 => hK ρ2 ex2 bs2 st2 a2 w2 hx2.of_none) hP (fun _ _ _ _ _ _ _ h => by cases h)
        · rename_i hg
          refine unf ?_
          rw [guard_yes hR hg]
          simp only [if_true]
          unfold Oper.wp
          split at hT
          · rename_i reqs v hp
            obtain ⟨st', hR', e1, e2, hreq, hT'⟩ := mkNeeds_sound hR hT
            obtain ⟨z, hz, hrun⟩ := pureA_sound (P := P) (opd_sound hR.slot) hR.mem.rel hp hreq
            rw [hrun]
            exact hK ρ .normal bs _ _ w hrefl hρ (hR'.put o.dst hz) hT'
          · split at hT
            · rename_i reqs v mem' hp
              obtain ⟨ex, z, w', hz, hM, hrun⟩ := effA_sound (P := P) (opd_sound hR.slot) hR.mem hp
              have hx : Then top ρ ρ bs (bs ++ ex) := Then.of_none ⟨rfl, ex, rfl⟩
              have hR2 := (hR.eff hM).put o.dst hz
              rcases hrun with hrun | ⟨hrun, rfl⟩
              · rw [hrun]
                exact hK ρ .normal _ _ _ w' hx hρ hR2 hT
              · rw [hrun]
                exact hK ρ .normal _ _ _ w' hx hρ hR2 hT
            · split at hT
              · exact hT.elim
              · rename_i f args hcall
                split at hT
                · exact hT.elim
                · rename_i hokf
                  obtain ⟨vs, hvs, hexec⟩ := callA_sound (P := P) (opd_sound hR.slot) hcall
                  obtain ⟨fn, hfn, hname, hbody⟩ := hcfg.names f (by simpa using hokf)
                  rw [hexec w, run_callFunc hfn hname hbody]
                  rw [Oper.upon_enter]
                  split at hT
                  · rename_i v hsum
                    obtain ⟨z, hz, hcalls⟩ := hcfg.sums f args v hsum bs ρ w vs hρ hvs
                    refine hcalls.mono ?_
                    rintro e w' ⟨rfl, hb⟩
                    exact hK ρ .normal bs _ _ w' hrefl hρ (RelS.put ⟨hR.size, hR.slot, hR.defers, hR.mem.below hb, hR.pc⟩ o.dst hz) hT
                  · simp only [hfn] at hT
                    cases hc : fn.body with
                    | none => rw [hc] at hbody; cases hbody
                    | some c =>
                      simp only [hc] at hT
                      split at hT
                      · exact hT.elim
                      · rename_i hle
                        have hlen := dvl_length hvs
                        refine calls_of_wp hfn hc (ih none (.code c) _ _ bs ρ _ w _ (fun _ => True) (fun _ => True) ?_ hρ hT ?_ ?_ (fun _ _ _ _ _ _ _ h => by cases h))
                        · refine ⟨by simp [hlen], ?_, rfl, hR.mem, hR.pc⟩
                          have := slots_map args vs (fn.ntmps - args.length) hvs
                          simpa [hlen] using this
                        · intro ρ' ex bs' st' a' w' hx hf hR' hT'
                          obtain ⟨rfl, e1, rfl⟩ := hx
                          have fin : (match resultA P fn st' with | some v => K .normal { slots := updS st.slots o.dst v, mem := st'.mem, pc := st'.pc } | none => .fail 19).holds I L ρ' →
                              a'.defers = [] ∧ ∃ v, (results fn a'.tmps).run P w' = .ok v w' ∧ Q .normal (a.put o.dst v) w' := by
                            intro hT'
                            split at hT'
                            · rename_i v hv
                              obtain ⟨z, hz, hrun⟩ := resultA_sound (P := P) hR' hv
                              refine ⟨hR'.defers, z, hrun, ?_⟩
                              have hR3 : RelS (bs ++ e1) ρ' S w0 { slots := st.slots, mem := st'.mem, pc := st'.pc } a w' := ⟨hR.size, fun i v hv => dv_mono e1 v (hR.slot i v hv), hR.defers, hR'.mem, hR'.pc⟩
                              exact hK ρ' .normal _ _ _ w' (Then.of_none ⟨rfl, e1, rfl⟩) hf (hR3.put o.dst hz) hT'
                            · exact hT'.elim
                          cases ex with
                          | normal => exact fin hT'
                          | ret => exact fin hT'
                          | exit id => exact hT'.elim
                        · intro ch a' w' h
                          exact hP _ _ _ h.2

end Go.SX
