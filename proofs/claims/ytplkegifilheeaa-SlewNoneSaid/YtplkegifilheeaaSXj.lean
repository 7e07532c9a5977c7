/- Symbolic execution of the model's code, part 10: the executor's word holds. -/
import Derived.Test.YtplkegifilheeaaSXi
namespace Go.SX
open Go.Proofs.YtplkegifilheeaaW.PrintLast
set_option linter.unusedSimpArgs false
set_option linter.unusedVariables false
variable {bs : List Ent} {ρ : Env} {P : Program} {w : World} {S : Nat → Prop} {w0 : World}

mutual
theorem den_sub (θ : List (Nat × SE)) : ∀ e : SE, den ρ (e.sub θ) = den (ρ.sub θ) e
  | .lit n => rfl
  | .var i => rfl
  | .bin op k a b => by simp only [SE.sub, den, den_sub θ a, den_sub θ b]
  | .conv k a => by simp only [SE.sub, den, den_sub θ a]
  | .cmp op a b => by simp only [SE.sub, den, den_sub θ a, den_sub θ b]
  | .not a => by simp only [SE.sub, den, den_sub θ a]
  | .and a b => by simp only [SE.sub, den, den_sub θ a, den_sub θ b]
  | .mx a b => by simp only [SE.sub, den, den_sub θ a, den_sub θ b]
  | .mn a b => by simp only [SE.sub, den, den_sub θ a, den_sub θ b]
  | .app f a => by simp only [SE.sub, den, dens_sub θ a]; rfl
  | .nil => rfl
  | .cons _ _ => rfl
theorem dens_sub (θ : List (Nat × SE)) : ∀ e : SE, dens ρ (e.subL θ) = dens (ρ.sub θ) e
  | .cons a b => by simp only [SE.subL, dens, den_sub θ a, dens_sub θ b]
  | .lit _ | .bin _ _ _ _ | .conv _ _ | .cmp _ _ _ | .not _ | .and _ _ | .mx _ _ | .mn _ _ | .app _ _ | .nil | .var _ => rfl
end
theorem evB_sub (θ : List (Nat × SE)) (e : SE) : evB ρ (e.sub θ) = evB (ρ.sub θ) e := by
  show (den ρ (e.sub θ) != 0) = _
  rw [den_sub]; rfl

mutual
theorem dv_sub (θ : List (Nat × SE)) : ∀ a : AV, dv bs ρ (a.sub θ) = dv bs (ρ.sub θ) a
  | .int k e => by simp only [AV.sub, dv, den_sub]
  | .bool e => by simp only [AV.sub, dv, evB_sub]
  | .sptr id i s o => by simp only [AV.sub, dv, den_sub]
  | .slice id o n c => by simp only [AV.sub, dv, den_sub]
  | .row id o n c => by simp only [AV.sub, dv, den_sub]
  | .bstr l => by simp only [AV.sub, dv, dens_sub]
  | .fn f c => by simp only [AV.sub, dv, dvs_sub θ c]
  | .fnx f c => by simp only [AV.sub, dv, dvs_sub θ c]
  | .iface t v => by simp only [AV.sub, dv, dv_sub θ v]
  | .agg l => by simp only [AV.sub, dv, dvs_sub θ l]
  | .tuple l => by simp only [AV.sub, dv, dvs_sub θ l]
  | .cons a b => rfl
  | .str _ | .ptr _ _ | .arg _ | .nilptr | .gptr _ | .nilslice | .nilFunc | .nilIface | .nil => rfl
theorem dvs_sub (θ : List (Nat × SE)) : ∀ a : AV, dvs bs ρ (a.sub θ) = dvs bs (ρ.sub θ) a
  | .cons a b => by simp only [AV.sub, dvs, dv_sub θ a, dvs_sub θ b]
  | .int _ _ | .bool _ | .sptr _ _ _ _ | .slice _ _ _ _ | .row _ _ _ _ | .bstr _ | .fn _ _ | .fnx _ _ | .iface _ _ | .agg _ | .tuple _
  | .str _ | .ptr _ _ | .arg _ | .nilptr | .gptr _ | .nilslice | .nilFunc | .nilIface | .nil => rfl
end
theorem dvl_sub (θ : List (Nat × SE)) : ∀ l : List AV, dvl bs ρ (l.map (AV.sub θ)) = dvl bs (ρ.sub θ) l
  | [] => rfl
  | a :: l => by simp only [List.map_cons, dvl, dv_sub θ a, dvl_sub θ l]

mutual
theorem dv_low (n : Nat) : ∀ (a : AV) {v : Value}, a.lowB n = true → dv bs ρ a = some v → dv (bs.take n) ρ a = some v
  | .int _ _, v, _, h | .bool _, v, _, h | .str _, v, _, h | .nilptr, v, _, h | .gptr _, v, _, h | .nilslice, v, _, h | .bstr _, v, _, h | .nilFunc, v, _, h | .nilIface, v, _, h => h
  | .ptr id off, v, hl, h | .sptr id _ _ off, v, hl, h | .slice id off _ _, v, hl, h | .arg id, v, hl, h | .row id off _ _, v, hl, h => by
    simp only [AV.lowB, decide_eq_true_eq] at hl
    simp only [dv, List.getElem?_take, hl, if_true]
    exact h
  | .fn f c, v, hl, h | .fnx f c, v, hl, h => by
    simp only [dv, Option.map_eq_some_iff] at h ⊢
    obtain ⟨b, hb, hv⟩ := h
    exact ⟨b, dvs_low n c hl hb, hv⟩
  | .agg l, v, hl, h | .tuple l, v, hl, h => by
    simp only [dv, Option.map_eq_some_iff] at h ⊢
    obtain ⟨b, hb, hv⟩ := h
    exact ⟨b, dvs_low n l hl hb, hv⟩
  | .iface t x, v, hl, h => by
    simp only [dv, Option.map_eq_some_iff] at h ⊢
    obtain ⟨b, hb, hv⟩ := h
    exact ⟨b, dv_low n x hl hb, hv⟩
  | .nil, v, _, h | .cons _ _, v, _, h => by simp [dv] at h
theorem dvs_low (n : Nat) : ∀ (a : AV) {v : List Value}, a.lowB n = true → dvs bs ρ a = some v → dvs (bs.take n) ρ a = some v
  | .nil, v, _, h => h
  | .cons a b, v, hl, h => by
    simp only [AV.lowB, Bool.and_eq_true] at hl
    simp only [dvs, Option.bind_eq_some_iff, Option.map_eq_some_iff] at h ⊢
    obtain ⟨x, hx, xs, hxs, hv⟩ := h
    exact ⟨x, dv_low n a hl.1 hx, xs, dvs_low n b hl.2 hxs, hv⟩
  | .int _ _, _, _, h | .bool _, _, _, h | .str _, _, _, h | .ptr _ _, _, _, h | .sptr _ _ _ _, _, _, h | .nilptr, _, _, h | .gptr _, _, _, h | .slice _ _ _ _, _, _, h | .arg _, _, _, h | .row _ _ _ _, _, _, h | .nilslice, _, _, h | .bstr _, _, _, h
  | .fn _ _, _, _, h | .fnx _ _, _, _, h | .nilFunc, _, _, h | .iface _ _, _, _, h | .nilIface, _, _, h | .agg _, _, _, h | .tuple _, _, _, h => by simp [dvs] at h
end
theorem dvl_low (n : Nat) : ∀ {l : List AV} {vs : List Value}, l.all (AV.lowB n) = true → dvl bs ρ l = some vs → dvl (bs.take n) ρ l = some vs
  | [], vs, _, h => h
  | a :: l, vs, hl, h => by
    simp only [List.all_cons, Bool.and_eq_true] at hl
    simp only [dvl, Option.bind_eq_some_iff, Option.map_eq_some_iff] at h ⊢
    obtain ⟨x, hx, xs, hxs, hv⟩ := h
    exact ⟨x, dv_low n a hl.1 hx, xs, dvl_low n hl.2 hxs, hv⟩

theorem fitMem_get {θ : List (Nat × SE)} {n : Nat} : ∀ {m mem : List AObj}, fitMem θ n m mem = true → m.length ≤ mem.length ∧ ∀ (i : Nat) p, m[i]? = some p → mem[i]? = some (subObj θ p) ∧ belowObj n p = true
  | [], mem, h => ⟨Nat.zero_le _, fun i p hp => by simp at hp⟩
  | p :: r, [], h => by simp [fitMem] at h
  | p :: r, o :: s, h => by
    simp only [fitMem, Bool.and_eq_true] at h
    obtain ⟨h1, h2⟩ := fitMem_get h.2
    refine ⟨by simp; exact h1, fun i q hq => ?_⟩
    cases i with
    | zero => simp at hq; subst hq; exact ⟨by simp [beqO_eq h.1.1], h.1.2⟩
    | succ i => exact h2 i q (by simpa using hq)
theorem fitSlots_get {θ : List (Nat × SE)} {n : Nat} : ∀ {s t : List (Option AV)}, fitSlots θ n s t = true → s.length = t.length ∧ ∀ (i : Nat) p, s[i]? = some (some p) → t[i]? = some (some (p.sub θ)) ∧ p.lowB n = true
  | [], [], h => ⟨rfl, fun i p hp => by simp at hp⟩
  | none :: r, v :: s, h => by
    obtain ⟨h1, h2⟩ := fitSlots_get (s := r) (t := s) (by simpa [fitSlots] using h)
    refine ⟨by simp [h1], fun i q hq => ?_⟩
    cases i with
    | zero => simp at hq
    | succ i => exact h2 i q (by simpa using hq)
  | some p :: r, some v :: s, h => by
    simp only [fitSlots, Bool.and_eq_true] at h
    obtain ⟨h1, h2⟩ := fitSlots_get h.2
    refine ⟨by simp [h1], fun i q hq => ?_⟩
    cases i with
    | zero => simp at hq; subst hq; exact ⟨by simp [beqA_eq h.1.1], h.1.2⟩
    | succ i => exact h2 i q (by simpa using hq)
  | [], _ :: _, h => by simp [fitSlots] at h
  | some _ :: _, [], h => by simp [fitSlots] at h
  | none :: _, [], h => by simp [fitSlots] at h
  | some _ :: _, none :: _, h => by simp [fitSlots] at h

theorem ORel.fit {θ : List (Nat × SE)} {n : Nat} {b : Ent} {p : AObj} (h : ORel bs ρ w b (subObj θ p)) (hl : belowObj n p = true) : ORel (bs.take n) (ρ.sub θ) w b p := by
  cases p with
  | cells c ty own g =>
    obtain ⟨vs, tail, h1, h2, h3⟩ := h
    rw [dvl_sub] at h1
    exact ⟨vs, tail, dvl_low n hl h1, h2, h3⟩
  | sym m cap row ty =>
    obtain ⟨e1, e2, e3, e4, e5, e6⟩ := h
    simp only [den_sub] at e1 e2 e3 e4 e5 e6
    exact ⟨e1, e2, e3, e4, e5, e6⟩
  | dead => trivial

theorem fit_sound {θ : List (Nat × SE)} {h st : ASt} {a : Act} (hf : fit θ h st = true) (hR : RelS bs ρ S w0 st a w) (hpc : ∀ p ∈ h.pc, evB (ρ.sub θ) p.1 = p.2) :
    RelS (bs.take h.mem.length) (ρ.sub θ) S w0 h a w := by
  simp only [fit, Bool.and_eq_true] at hf
  obtain ⟨h1, h2⟩ := fitSlots_get hf.1
  obtain ⟨h3, h4⟩ := fitMem_get hf.2
  have mine : ∀ p : AObj, (subObj θ p).mine = p.mine := fun p => by cases p <;> rfl
  have live : ∀ p : AObj, Occ (ρ.sub θ) p → Occ ρ (subObj θ p) := fun p hp => by
    cases p with
    | cells c ty own g => trivial
    | sym n cap row ty => show 0 < den ρ (cap.sub θ); rw [den_sub]; exact hp
    | dead => exact hp.elim
  have tk : ∀ {i : Nat} {b : Ent}, (bs.take h.mem.length)[i]? = some b → bs[i]? = some b := fun {i b} hb => by
    rw [List.getElem?_take] at hb
    split at hb
    · exact hb
    · cases hb
  refine ⟨by rw [hR.size, h1], fun i v hv => ?_, hR.defers, ⟨?_, ?_, ?_, ?_, hR.mem.keep⟩, hpc⟩
  · obtain ⟨hs, hl⟩ := h2 i v hv
    have := hR.slot i _ hs
    rw [dv_sub] at this
    exact dv_low _ v hl this
  · rw [List.length_take, hR.mem.len]; omega
  · intro i p hp
    obtain ⟨hm, hb⟩ := h4 i p hp
    obtain ⟨b, hb', hr⟩ := hR.mem.rel i _ hm
    refine ⟨b, ?_, hr.fit hb⟩
    rw [List.getElem?_take, if_pos (List.getElem?_eq_some_iff.1 hp).1]
    exact hb'
  · intro i p b hp hmi hb
    obtain ⟨hm, _⟩ := h4 i p hp
    exact hR.mem.own i _ b hm (by rw [mine]; exact hmi) (tk hb)
  · intro i j p q b b' hij hp hq hmi hli hb hb'
    obtain ⟨hm, _⟩ := h4 i p hp
    obtain ⟨hm', _⟩ := h4 j q hq
    exact hR.mem.apart i j _ _ b b' hij hm hm' (by rw [mine]; exact hmi) (live _ hli) (tk hb) (tk hb')

variable {I : Nat → Env → Prop} {L : Env → AV → List AObj → Prop}

theorem mkFacts_sound {θ : List (Nat × SE)} {k : Tree} : ∀ {pcs : List (SE × Bool)}, (mkFacts θ k pcs).holds I L ρ → (∀ p ∈ pcs, evB (ρ.sub θ) p.1 = p.2) ∧ k.holds I L ρ
  | [], h => ⟨(fun p hp => by cases hp), h⟩
  | (c, true) :: r, h => by
    obtain ⟨h1, h2⟩ := h
    obtain ⟨h3, h4⟩ := mkFacts_sound h2
    refine ⟨fun p hp => ?_, h4⟩
    rcases List.mem_cons.1 hp with rfl | hp
    · rw [← evB_sub]; exact h1
    · exact h3 p hp
  | (c, false) :: r, h => by
    obtain ⟨h1, h2⟩ := h
    obtain ⟨h3, h4⟩ := mkFacts_sound h2
    refine ⟨fun p hp => ?_, h4⟩
    rcases List.mem_cons.1 hp with rfl | hp
    · rw [← evB_sub]
      have h5 : ofB (den ρ (c.sub θ) == 0) != 0 := h1
      rw [ofB_bne] at h5
      simpa [evB] using h5
    · exact h3 p hp

theorem wp_loop_nat {c : Code} {Q : Exit → Act → World → Prop} (J : Nat → Act → World → Prop)
    (round : ∀ n a w, J n a w → c.wp P (Exit.then (fun a' w' => ∃ m, m < n ∧ J m a' w') Q) a w) {n : Nat} {a : Act} {w : World} (h0 : J n a w) : (Code.loop c).wp P Q a w := by
  have key : ∀ k m a w, J m a w → m < k → Code.rounds P c Q k a w := by
    intro k
    induction k with
    | zero => intro m a w _ h; omega
    | succ k ih =>
      intro m a w hJ hm
      rw [rounds_succ]
      refine wp_mono (round m a w hJ) fun e a' w' hq => ?_
      cases e with
      | normal => obtain ⟨m', hm', hJ'⟩ := hq; exact ih m' a' w' hJ' (by omega)
      | _ => exact hq
  exact wp_loop_rounds (n + 1) (key (n + 1) n a w h0 (by omega))

end Go.SX
