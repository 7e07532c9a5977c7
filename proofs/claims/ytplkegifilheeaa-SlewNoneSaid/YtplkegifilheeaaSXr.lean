/- A region that draws its order: an operation may be taken first under one of two conditions on the world: one that every operation keeps, or one that is kept by all but those that wait for it. After the kit's own printed words (wpAnyLast), with the second condition beside. -/
import Derived.Test.YtplkegifilheeaaWLast
namespace Go.SX
open Go.Proofs.YtplkegifilheeaaW.PrintLast
set_option linter.unusedVariables false
section
variable {P : Program} {ops : Array Oper} {Q : Exit → Act → World → Prop} {S T : World → Prop} {ds : List Nat}

def wpTwo (P : Program) (ops : Array Oper) (Q : Exit → Act → World → Prop) (S T : World → Prop) (ds : List Nat) : Nat → Array Bool → Act → World → Prop
  | 0, listed, a, w => Region.ready .any ops listed = [] ∧ Q .normal a w
  | fuel + 1, listed, a, w =>
    (Region.ready .any ops listed = [] → Q .normal a w) ∧
    ∀ i ∈ Region.ready .any ops listed, wpOp P ops Q i (fun a' w' => ((i ∉ ds → S w → S w') ∧ (T w → T w')) ∧ wpTwo P ops Q S T ds fuel (listed.setIfInBounds i true) a' w') a w

theorem wpAny_of_two : ∀ (fuel : Nat) (listed : Array Bool) (a : Act) (w : World), wpTwo P ops Q S T ds fuel listed a w → wpAny P .any ops Q fuel listed a w
  | 0, _, _, _, h => h
  | fuel + 1, _, _, _, h => ⟨h.1, fun i hi => wpOp_mono (fun a' w' h' => wpAny_of_two fuel _ a' w' h'.2) (h.2 i hi)⟩

/-- 'U': what the operation needs of the world; 'hU': who comes up before it keeps U. -/
theorem wpTwo_first {i : Nat} {oi : Oper} {v : Value} (hi : ops[i]? = some oi) (hsel : ∀ (j : Nat) (o : Oper) cs b, ops[j]? = some o → o.op ≠ .select cs b)
    (hQ : ∀ c a w, Q (.panic c) (a.put oi.dst v) w → Q (.panic c) a w) (U : World → Prop) (G : Array Bool → Prop)
    (hU : ∀ (j : Nat) (listed : Array Bool) (w w' : World), G listed → i ∈ Region.ready .any ops listed → j ∈ Region.ready .any ops listed → ((j ∉ ds → S w → S w') ∧ (T w → T w')) → U w → U w')
    (hG : ∀ (j : Nat) (listed : Array Bool), G listed → j ∈ Region.ready .any ops listed → G (listed.setIfInBounds j true)) :
    ∀ (fuel : Nat) (listed : Array Bool) (a : Act) (w : World),
      (∀ j oj, ops[j]? = some oj → j ≠ i → listed.getD j true = false → (∀ e ∈ oj.after, Region.binds .any e = true → e.on ≠ i) → oi.apart ops oj = true) →
      G listed → i ∈ Region.ready .any ops listed → YieldsIf P ops U oi v a → U w →
      wpTwo P ops Q S T ds fuel (listed.setIfInBounds i true) (a.put oi.dst v) w → wpTwo P ops Q S T ds (fuel + 1) listed a w := by
  intro fuel
  induction fuel with
  | zero =>
    intro listed a w _ _ hr hy hS H
    refine ⟨fun h => (by rw [h] at hr; cases hr), fun j hj => ?_⟩
    by_cases hji : j = i
    · subst hji; exact hy.wpOp hi hS ⟨⟨fun _ h => h, fun h => h⟩, H⟩
    · have := ready_mono hj hji
      rw [H.1] at this
      cases this
  | succ fuel ih =>
    intro listed a w hfree hg hr hy hS H
    refine ⟨fun h => (by rw [h] at hr; cases hr), fun j hj => ?_⟩
    by_cases hji : j = i
    · subst hji; exact hy.wpOp hi hS ⟨⟨fun _ h => h, fun h => h⟩, H⟩
    · have h1 := H.2 j (ready_mono hj hji)
      obtain ⟨hjun, oj, hoj, hall⟩ := mem_ready.1 hj
      have hiun := (mem_ready.1 hr).1
      have hnot : ∀ e ∈ oj.after, Region.binds .any e = true → e.on ≠ i := fun e he hb heq => by
        have h1 := hall e he hb
        rw [heq] at h1
        rcases Nat.lt_or_ge i listed.size with h' | h'
        · simp [h'] at hiun h1; rw [hiun] at h1; cases h1
        · simp [Array.getElem?_eq_none h'] at h1
      have h2 := wpOp_putIf hoj (hfree j oj hoj hji hjun hnot) (fun cs b => hsel i oi cs b hi) (fun cs b => hsel j oj cs b hoj) hQ hy h1
      have hfree' : ∀ k ok, ops[k]? = some ok → k ≠ i → (listed.setIfInBounds j true).getD k true = false →
          (∀ e ∈ ok.after, Region.binds .any e = true → e.on ≠ i) → oi.apart ops ok = true := fun k ok hk hki hun hno => by
        refine hfree k ok hk hki ?_ hno
        by_cases hjk : j = k
        · subst hjk; exact hjun
        · rw [getD_set_ne true hjk] at hun; exact hun
      refine wpOp_mono (fun a' w' h3 => ⟨h3.2.1, ih (listed.setIfInBounds j true) a' w' hfree' (hG j listed hg hj) (ready_mono hr (Ne.symm hji)) h3.1 (hU j listed w w' hg hr hj h3.2.1 hS) ?_⟩) h2
      rw [Array.setIfInBounds_comm _ _ hji]
      exact h3.2.2

/-- It yields in every world that meets T: taken first wherever it may come up. -/
theorem wpTwo_any {i : Nat} {N : Option Tmp} {oi : Oper} {v : Value} {fuel : Nat} {l l' : Array Bool} {a : Act} {w : World} (hi : ops[i]? = some oi) (hN : oi.dst = N) (hc : anyB .any ops l l' i = true)
    (hQ : ∀ c a w, Q (.panic c) (a.put oi.dst v) w → Q (.panic c) a w) (hy : YieldsIf P ops T oi v a) (hT : T w)
    (h : wpTwo P ops Q S T ds fuel l' (a.put N v) w) : wpTwo P ops Q S T ds (fuel + 1) l a w := by
  subst hN
  simp only [anyB, Bool.and_eq_true, beq_iff_eq] at hc
  obtain ⟨⟨⟨h1, h2⟩, h3⟩, h6⟩ := hc
  subst h6
  exact wpTwo_first hi (Region.noSelect_spec h1) hQ T (fun _ => True) (fun j l w w' _ _ _ hh => hh.2) (fun _ _ _ _ => trivial) fuel l a w (Region.free_spec hi h2) trivial (by simpa using h3) hy hT h

/-- It yields in every world that meets S, and each of ds waits for it. -/
theorem wpTwo_take {i : Nat} {N : Option Tmp} {oi : Oper} {v : Value} {fuel : Nat} {l l' : Array Bool} {a : Act} {w : World} (hi : ops[i]? = some oi) (hN : oi.dst = N) (hc : takeB .any ops ds l l' i = true)
    (hQ : ∀ c a w, Q (.panic c) (a.put oi.dst v) w → Q (.panic c) a w) (hy : YieldsIf P ops S oi v a) (hS : S w)
    (h : wpTwo P ops Q S T ds fuel l' (a.put N v) w) : wpTwo P ops Q S T ds (fuel + 1) l a w := by
  subst hN
  simp only [takeB, Bool.and_eq_true, beq_iff_eq] at hc
  obtain ⟨⟨⟨⟨⟨h1, h2⟩, h3⟩, h4⟩, h5⟩, h6⟩ := hc
  subst h6
  refine wpTwo_first hi (Region.noSelect_spec h1) hQ S (fun l => ListedClosed .any ops l ∧ ∀ d ∈ ds, l.getD d true = false → Region.reachB .any ops i ops.size d = true)
    (fun j l w w' hg hr hj hh hs => hh.1 (fun hm => ?_) hs) (fun j l hg hj => ⟨hg.1.set hj, fun d hm hun => ?_⟩) fuel l a w (Region.free_spec hi h2) ⟨Region.closedB_spec h4, fun d hm hun => ?_⟩ (by simpa using h3) hy hS h
  · have hjun := (mem_ready.1 hj).1
    exact Region.reach_not_ready hg.1 (hg.2 j hm hjun) (mem_ready.1 hr).1 hj
  · refine hg.2 d hm ?_
    by_cases hjk : j = d
    · subst hjk; exact (mem_ready.1 hj).1
    · rw [getD_set_ne true hjk] at hun; exact hun
  · have := List.all_eq_true.1 h5 d hm
    rw [hun] at this
    simpa using this

theorem wp_region_two {id : Nat} {a : Act} {w : World} (hm : P.follows .mixedOrders = true)
    (h : wpTwo P ops Q S T ds ops.size (Array.replicate ops.size false) a { w with drawn := w.drawn + 1 }) : (Code.region id ops true).wp P Q a w :=
  wp_region_any hm (wpAny_of_two _ _ _ _ h)
end
end Go.SX
