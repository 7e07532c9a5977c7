/- Symbolic execution of the model's code, part 4: each operation that only computes or reads does what part 2 says. -/
import Derived.Test.YtplkegifilheeaaSXc
namespace Go.SX
set_option linter.unusedSimpArgs false
set_option linter.unusedVariables false
variable {bs : List Ent} {ρ : Env} {P : Program} {w : World}

theorem run_bin_int (op : BinOp) (t : TypeId) (k : IntKind) (a b : Int) (hs : isShift op = false) (hd : isDiv op = true → b ≠ 0) (hc : isCmp op = false) :
    (binOp op t (.int k a) (.int k b)).run P w = .ok (.int k (binI op k a b)) w := by
  cases op <;> simp [isShift, isCmp] at hs hc <;> simp [binOp, Op.intArith, Op.intBits, Op.intDiv, binI]
  all_goals (have h0 := hd rfl; simp [h0])
theorem run_bin_cmp (op : BinOp) (t : TypeId) (k : IntKind) (a b : Int) (hc : isCmp op = true) :
    (binOp op t (.int k a) (.int k b)).run P w = .ok (.bool (cmpI op a b)) w := by
  cases op <;> simp [isCmp] at hc <;> simp [binOp, Op.intCmp, cmpI]
theorem run_bin_shift (op : BinOp) (t : TypeId) (k k' : IntKind) (a b : Int) (hc : isShift op = true) (hb : 0 ≤ b) :
    (binOp op t (.int k a) (.int k' b)).run P w = .ok (.int k (binI op k a b)) w := by
  have hb' : ¬ b < 0 := by omega
  cases op <;> simp [isShift] at hc <;> simp [binOp, Op.shift, binI, hb']

theorem eqS_sound {t : TypeId} {x y : AV} {c : SE} {u v : Value} (hx : dv bs ρ x = some u) (hy : dv bs ρ y = some v) (h : eqS P t x y = some c) (d : Nat) :
    (Op.equalIn (d + 1) t u v).run P w = .ok (evB ρ c) w := by
  unfold eqS at h
  split at h
  · rename_i k0 k a k' b hu
    split at h
    · rename_i hk
      subst hk
      cases h
      obtain ⟨rfl, _⟩ := dv_int hx
      obtain ⟨rfl, _⟩ := dv_int hy
      simp [Op.equalIn, run_underlying hu, evB_mkCmp, cmpI]
    · cases h
  · rename_i a b hu
    cases h; cases hx; cases hy
    simp [Op.equalIn, run_underlying hu, evB_mkCmp, den_mkNot, cmpI]
    cases evB ρ a <;> cases evB ρ b <;> rfl
  · rename_i a b hu
    cases h; cases hx; cases hy
    simp [Op.equalIn, run_underlying hu, evB_lit_ofB, beq_toListBytes]
  · rename_i hu; cases h; cases hx; cases hy
    simp [Op.equalIn, run_underlying hu, evB, den]
  · rename_i hu; cases h; cases hx
    simp only [dv, Option.map_eq_some_iff] at hy
    obtain ⟨b, _, rfl⟩ := hy
    simp [Op.equalIn, run_underlying hu, evB, den]
  · rename_i hu; cases h; cases hy
    simp only [dv, Option.map_eq_some_iff] at hx
    obtain ⟨b, _, rfl⟩ := hx
    simp [Op.equalIn, run_underlying hu, evB, den]
  · cases h

theorem eqF_sound {xs ys : List AV} {us vs : List Value} (hx : dvl bs ρ xs = some us) (hy : dvl bs ρ ys = some vs) (d : Nat) :
    ∀ {fs : List Field} {c : SE}, eqF P xs ys fs = some c → (Op.eqFields (d + 1) us.toArray vs.toArray fs).run P w = .ok (evB ρ c) w
  | [], c, h => by cases h; simp [Op.eqFields, evB, den]
  | f :: fs, c, h => by
    unfold eqF at h
    split at h
    · rename_i hn
      simp only [Option.bind_eq_some_iff, Option.map_eq_some_iff] at h
      obtain ⟨a, ha, b, hb, c1, hc1, c2, hc2, rfl⟩ := h
      obtain ⟨u, hu, hru⟩ := partA_sound (w := w) hx ha
      obtain ⟨v, hv, hrv⟩ := partA_sound (w := w) hy hb
      have he := eqS_sound (w := w) hu hv hc1 d
      have ih := eqF_sound hx hy d hc2
      simp only [Op.eqFields, hn, if_true, ne_eq, not_false_eq_true, Sem.run_bind, hru, hrv, he, Result.andThen_ok, evB_mkAnd]
      cases h1 : evB ρ c1 <;> simp [ih]
    · rename_i hn
      have ih := eqF_sound hx hy d h
      simp only [Op.eqFields, hn, if_false, ih]

theorem fieldsOf_spec {t : TypeId} {fs : List Field} (h : fieldsOf P t = some fs) : P.underlying t = some (.struct fs.toArray) := by
  unfold fieldsOf at h
  split at h
  · cases h; simpa
  · cases h

theorem eqA_sound {t : TypeId} {x y : AV} {c : SE} {u v : Value} (hx : dv bs ρ x = some u) (hy : dv bs ρ y = some v) (h : eqA P t x y = some c) :
    (∀ op a b w, (eqGuard op t a b u v).run P w = .ok () w) ∧ (∀ w, (Op.equal t u v).run P w = .ok (evB ρ c) w) ∧
    (∀ k n, u ≠ .int k n) ∧ (∀ s, u = .string s → ∀ s', v ≠ .string s') ∧ (∀ k n, u ≠ .float k n) ∧ (∀ k n m, u ≠ .complex k n m) := by
  unfold eqA at h
  split at h
  · rename_i xs ys
    split at h
    · cases h
    · rename_i hp
      simp only [Bool.or_eq_true, not_or, Bool.not_eq_true] at hp
      simp only [Option.bind_eq_some_iff] at h
      obtain ⟨fs, hfs, h⟩ := h
      simp only [dv, Option.map_eq_some_iff] at hx hy
      obtain ⟨us, hus, rfl⟩ := hx
      obtain ⟨vs, hvs, rfl⟩ := hy
      have ht := fieldsOf_spec hfs
      have hf : P.fieldsOf t = fs.toArray := by unfold Program.fieldsOf; rw [ht]
      refine ⟨fun op a b w => run_eqGuard_agg w op t a b _ _ hp.2, fun w => ?_, by simp, by simp, by simp, by simp⟩
      have := run_equalIn_struct (P := P) w 9999 t us.toArray vs.toArray (by rw [hf]; exact ht) hp.1
      rw [hf] at this
      show (Op.equalIn (9999 + 1) t _ _).run P w = _
      rw [this]
      exact eqF_sound (dvl_members xs hus) (dvl_members ys hvs) 9998 h
  · cases h
  · cases h
  · rename_i h1 h2 h3
    have key : ∀ w, (Op.equal t u v).run P w = .ok (evB ρ c) w := fun w => eqS_sound hx hy h 9999
    refine ⟨?_, key, ?_⟩
    all_goals
      unfold eqS at h
      split at h
    all_goals first
      | (cases h; done)
      | (exact absurd rfl (h2 _ _ _ _ rfl))
      | (exact absurd rfl (h3 _ _ rfl))
      | skip
    all_goals simp only [dv, Option.map_eq_some_iff, Option.some.injEq] at hx hy
    all_goals first
      | (obtain ⟨b, _, rfl⟩ := hx; exact fun op a b w => by rw [eqGuard_at_pointer]; rfl)
      | (obtain ⟨b, _, rfl⟩ := hx; simp; done)
      | (subst hx; exact fun op a b w => by first | (rw [eqGuard_at_pointer]; rfl) | (rw [eqGuard_at_bool]; rfl))
      | (subst hx; simp; done)
      | skip

theorem dv_bstr {l : SE} {v : Value} (h : dv bs ρ (.bstr l) = some v) : v = .string ⟨((dens ρ l).map fun n => n.toNat.toUInt8).toArray⟩ ∧ (dens ρ l).all (inR .u8) = true := by
  simp only [dv] at h
  split at h
  · rename_i hr; cases h; exact ⟨rfl, hr⟩
  · cases h
theorem u8_inR {n : Int} (h : inR .u8 n = true) : 0 ≤ n ∧ n ≤ 255 := by
  unfold inR at h
  rw [decide_eq_true_eq] at h
  have h1 : IntKind.u8.min = 0 := rfl
  have h2 : IntKind.u8.max = 255 := by decide
  omega
theorem eqBytes_sound : ∀ {a b : SE}, chain a = true → chain b = true → (dens ρ a).all (inR .u8) = true → (dens ρ b).all (inR .u8) = true →
    evB ρ (eqBytes a b) = ((dens ρ a).map (fun n => n.toNat.toUInt8) == (dens ρ b).map fun n => n.toNat.toUInt8)
  | .cons a r, .cons b s, ha, hb, h1, h2 => by
    simp only [dens, List.all_cons, Bool.and_eq_true] at h1 h2
    simp only [eqBytes, evB_mkAnd, evB_mkCmp, dens, List.map_cons, List.cons_beq_cons, eqBytes_sound (a := r) (b := s) ha hb h1.2 h2.2, cmpI]
    congr 1
    have e1 := u8_inR h1.1
    have e2 := u8_inR h2.1
    rw [Bool.eq_iff_iff]
    simp only [beq_iff_eq]
    constructor
    · intro h; rw [h]
    · intro h
      have := congrArg UInt8.toNat h
      simp only [Nat.toUInt8, UInt8.toNat_ofNat'] at this
      omega
  | .nil, .nil, _, _, _, _ => rfl
  | .cons _ _, .nil, _, _, _, _ => rfl
  | .nil, .cons _ _, _, _, _, _ => rfl
  | .cons _ _, .lit _, _, hb, _, _ | .cons _ _, .var _, _, hb, _, _ | .cons _ _, .bin _ _ _ _, _, hb, _, _ | .cons _ _, .conv _ _, _, hb, _, _ | .cons _ _, .cmp _ _ _, _, hb, _, _ | .cons _ _, .not _, _, hb, _, _
  | .cons _ _, .and _ _, _, hb, _, _ | .cons _ _, .mx _ _, _, hb, _, _ | .cons _ _, .mn _ _, _, hb, _, _ | .cons _ _, .app _ _, _, hb, _, _ => by cases hb
  | .nil, .lit _, _, hb, _, _ | .nil, .var _, _, hb, _, _ | .nil, .bin _ _ _ _, _, hb, _, _ | .nil, .conv _ _, _, hb, _, _ | .nil, .cmp _ _ _, _, hb, _, _ | .nil, .not _, _, hb, _, _
  | .nil, .and _ _, _, hb, _, _ | .nil, .mx _ _, _, hb, _, _ | .nil, .mn _ _, _, hb, _, _ | .nil, .app _ _, _, hb, _, _ => by cases hb
  | .lit _, _, ha, _, _, _ | .var _, _, ha, _, _, _ | .bin _ _ _ _, _, ha, _, _, _ | .conv _ _, _, ha, _, _, _ | .cmp _ _ _, _, ha, _, _, _ | .not _, _, ha, _, _, _
  | .and _ _, _, ha, _, _, _ | .mx _ _, _, ha, _, _, _ | .mn _ _, _, ha, _, _, _ | .app _ _, _, ha, _, _, _ => by cases ha

theorem binA_sound {op : BinOp} {t : TypeId} {x y : AV} {reqs : List SE} {r : AV} {u v : Value} (hx : dv bs ρ x = some u) (hy : dv bs ρ y = some v)
    (h : binA P op t x y = some (reqs, r)) (hr : ∀ c ∈ reqs, evB ρ c = true) :
    ∃ z, dv bs ρ r = some z ∧ ∀ a b (w : World), ((do eqGuard op t a b u v; binOp op t u v : Sem Value)).run P w = .ok z w := by
  unfold binA at h
  split at h
  · rename_i k a k' b
    obtain ⟨rfl, ha⟩ := dv_int hx
    obtain ⟨rfl, hb⟩ := dv_int hy
    have mk : ∀ op, dv bs ρ (.int k (mkBin op k a b)) = some (.int k (binI op k (den ρ a) (den ρ b))) := fun op => by
      have := binI_inR op k (den ρ b) ha
      rw [← den_mkBin] at this
      rw [dv_int_mk this, den_mkBin]
    split at h
    · rename_i hs
      cases h
      have h0 : 0 ≤ den ρ b := by
        have := hr _ (List.mem_singleton.2 rfl)
        rw [evB_mkCmp] at this
        simpa [cmpI, den] using this
      exact ⟨_, mk op, fun x y w => by simp [eqGuard_at_int, run_bin_shift op t k k' _ _ hs h0]⟩
    · rename_i hs
      split at h
      · rename_i hk
        subst hk
        split at h
        · rename_i hd
          cases h
          have h0 : den ρ b ≠ 0 := by
            have := hr _ (List.mem_singleton.2 rfl)
            rw [evB_mkCmp] at this
            simpa [cmpI, den] using this
          have hc : isCmp op = false := by cases op <;> simp_all [isDiv, isCmp]
          exact ⟨_, mk op, fun x y w => by simp [eqGuard_at_int, run_bin_int op t k _ _ (by simpa using hs) (fun _ => h0) hc]⟩
        · rename_i hd
          split at h
          · rename_i hc
            cases h
            exact ⟨_, rfl, fun x y w => by simp [eqGuard_at_int, run_bin_cmp op t k _ _ hc, evB_mkCmp]⟩
          · rename_i hc
            cases h
            exact ⟨_, mk op, fun x y w => by simp [eqGuard_at_int, run_bin_int op t k _ _ (by simpa using hs) (fun h => absurd h hd) (by simpa using hc)]⟩
      · cases h
  · rename_i a b
    obtain ⟨rfl, ha⟩ := dv_bstr hx
    obtain ⟨rfl, hb⟩ := dv_bstr hy
    have key : chain a = true → chain b = true → (ByteArray.toList ⟨((dens ρ a).map fun n => n.toNat.toUInt8).toArray⟩ == ByteArray.toList ⟨((dens ρ b).map fun n => n.toNat.toUInt8).toArray⟩) = evB ρ (eqBytes a b) := fun h1 h2 => by
      rw [ByteArray.toList_eq, ByteArray.toList_eq, eqBytes_sound h1 h2 ha hb]
    split at h
    · split at h
      · rename_i hc
        simp only [Bool.and_eq_true] at hc
        cases h
        exact ⟨_, rfl, fun x y w => by simp only [eqGuard_at_string, binOp, Op.stringOp, pure_bind, key hc.1 hc.2, Sem.run_pure]⟩
      · cases h
    · split at h
      · rename_i hc
        simp only [Bool.and_eq_true] at hc
        cases h
        exact ⟨_, rfl, fun x y w => by simp only [eqGuard_at_string, binOp, Op.stringOp, pure_bind, key hc.1 hc.2, Sem.run_pure, evB_mkNot]⟩
      · cases h
    · cases h
  · rename_i a b
    cases hx; cases hy
    split at h
    · cases h
      exact ⟨_, rfl, fun x y w => by simp [eqGuard_at_string, binOp, Op.stringOp, evB_lit_ofB]⟩
    · cases h
      exact ⟨_, rfl, fun x y w => by simp [eqGuard_at_string, binOp, Op.stringOp, evB_lit_ofB]⟩
    · cases h
  · rename_i h1 h2 h3
    split at h
    · simp only [Option.map_eq_some_iff, Prod.mk.injEq] at h
      obtain ⟨c, hc, rfl, rfl⟩ := h
      obtain ⟨hg, he, n1, n2, n3, n4⟩ := eqA_sound hx hy hc
      refine ⟨_, rfl, fun a b w => ?_⟩
      have : binOp .eql t u v = (do pure (.bool (← Op.equal t u v))) := by
        unfold binOp
        split <;> first | rfl | (simp_all; done)
      simp [hg, this, he]
    · simp only [Option.map_eq_some_iff, Prod.mk.injEq] at h
      obtain ⟨c, hc, rfl, rfl⟩ := h
      obtain ⟨hg, he, n1, n2, n3, n4⟩ := eqA_sound hx hy hc
      refine ⟨_, rfl, fun a b w => ?_⟩
      have : binOp .neq t u v = (do pure (.bool (!(← Op.equal t u v)))) := by
        unfold binOp
        split <;> first | rfl | (simp_all; done)
      simp [hg, this, he, evB_mkNot]
    · cases h

theorem unA_sound {op : UnOp} {x r : AV} {u : Value} (hx : dv bs ρ x = some u) (h : unA op x = some r) :
    ∃ z, dv bs ρ r = some z ∧ ∀ w : World, (Op.unary op u).run P w = .ok z w := by
  unfold unA at h
  split at h
  · rename_i k a
    cases h
    obtain ⟨rfl, _⟩ := dv_int hx
    have h1 : inR k (den ρ (mkBin .sub k (.lit 0) a)) = true := by rw [den_mkBin]; exact wrap_inR _ _
    exact ⟨_, dv_int_mk h1, fun w => by simp [Op.unary, Op.intArith, den_mkBin, binI, den]⟩
  · rename_i k a
    cases h
    obtain ⟨rfl, _⟩ := dv_int hx
    have h1 : inR k (den ρ (mkBin .xor k (.lit (if k.signed then -1 else k.max)) a)) = true := by rw [den_mkBin]; exact wrap_inR _ _
    exact ⟨_, dv_int_mk h1, fun w => by simp [Op.unary, Op.intBits, den_mkBin, binI, den]⟩
  · cases h; cases hx
    exact ⟨_, rfl, fun w => by simp [Op.unary, evB_mkNot]⟩
  · cases h

theorem convA_sound {src dst : TypeId} {x r : AV} {u : Value} (hx : dv bs ρ x = some u) (h : convA P src dst x = some r) :
    ∃ z, dv bs ρ r = some z ∧ ∀ w : World, (convert src dst u).run P w = .ok z w := by
  unfold convA at h
  split at h
  · rename_i d k k' a hs hd
    cases h
    obtain ⟨rfl, _⟩ := dv_int hx
    have h1 : inR k (den ρ (mkConv k a)) = true := by rw [den_mkConv]; exact wrap_inR _ _
    exact ⟨_, dv_int_mk h1, fun w => by simp [convert, run_underlying hs, run_underlying hd, Conv.intToInt, den_mkConv]⟩
  · rename_i s hs hd
    cases h; cases hx
    exact ⟨_, rfl, fun w => by simp [convert, run_underlying hs, run_underlying hd]⟩
  · cases h

theorem underlying_of_fields {t : TypeId} {fs : List Field} (h : fieldsOf P t = some fs) (w : World) : (underlying t).run P w = .ok (.struct fs.toArray) w :=
  run_underlying (fieldsOf_spec h) w

theorem fieldAddrA_sound {t : TypeId} {x r : AV} {f : Nat} {u : Value} (hx : dv bs ρ x = some u) (h : fieldAddrA P t x f = some r) :
    ∃ z, dv bs ρ r = some z ∧ ∀ w : World, (Instr.fieldAt t u f).run P w = .ok z w := by
  unfold fieldAddrA at h
  simp only [Option.bind_eq_some_iff] at h
  obtain ⟨fs, hfs, fd, hfd, h⟩ := h
  split at h
  · rename_i n hsz
    split at h
    · cases h
      simp only [dv, Option.map_eq_some_iff] at hx
      obtain ⟨b, hb, rfl⟩ := hx
      exact ⟨_, by simp only [dv, hb, Option.map_some]; rfl, fun w => by simp [Instr.fieldAt, underlying_of_fields hfs, hfd, Instr.sureAddr, fieldPlace, run_sizeA hsz, Addr.add_lit, Nat.add_assoc]⟩
    · cases h
      simp only [dv, Option.map_eq_some_iff] at hx
      obtain ⟨b, hb, rfl⟩ := hx
      exact ⟨_, by simp only [dv, hb, Option.map_some]; rfl, fun w => by simp [Instr.fieldAt, underlying_of_fields hfs, hfd, Instr.sureAddr, fieldPlace, run_sizeA hsz, Addr.add_lit, Nat.add_assoc]⟩
    · cases h
  · cases h

theorem fieldA_sound {t : TypeId} {x r : AV} {f : Nat} {u : Value} (hx : dv bs ρ x = some u) (h : fieldA P t x f = some r) :
    ∃ z, dv bs ρ r = some z ∧ (Instr.field t u f).run P w = .ok z w := by
  unfold fieldA at h
  split at h
  · simp only [Option.bind_eq_some_iff] at h
    obtain ⟨fs, hfs, fd, hfd, h⟩ := h
    simp only [dv, Option.map_eq_some_iff] at hx
    obtain ⟨vs, hvs, rfl⟩ := hx
    obtain ⟨z, hz, hrun⟩ := partA_sound (w := w) (dvl_members _ hvs) h
    exact ⟨z, hz, by simp [Instr.field, underlying_of_fields hfs, hfd, asAgg, hrun]⟩
  · cases h

theorem indexAddrA_sound {mem : List AObj} {t : TypeId} {x i r : AV} {reqs : List SE} {u v : Value} (hm : MRel bs ρ mem w) (hx : dv bs ρ x = some u) (hi : dv bs ρ i = some v)
    (h : indexAddrA P mem t x i = some (reqs, r)) (hr : ∀ c ∈ reqs, evB ρ c = true) : ∃ z, dv bs ρ r = some z ∧ ∀ w : World, (Instr.indexAt t u v).run P w = .ok z w := by
  unfold indexAddrA at h
  split at h
  · rename_i n e id off k j hu
    split at h
    · rename_i s hs
      split at h
      · rename_i hj
        cases h
        obtain ⟨rfl, hir⟩ := dv_int hi
        clear hir
        simp only [dv, Option.map_eq_some_iff] at hx
        obtain ⟨b, hb, rfl⟩ := hx
        exact ⟨_, by simp only [dv, hb, Option.map_some]; rfl, fun w => by simp [Instr.indexAt, run_underlying hu, asIntOf, Instr.sureAddr, den, hj, run_sizeA hs, Addr.add_lit, Nat.add_assoc]⟩
      · cases h
    · cases h
  · rename_i e id off len cap k ix hu
    simp only [dv, Option.map_eq_some_iff] at hx
    obtain ⟨b, hb, rfl⟩ := hx
    obtain ⟨rfl, hir⟩ := dv_int hi
    clear hir
    split at h
    · rename_i s hs
      split at h
      · rename_i j
        split at h
        · rename_i hj
          cases h
          have h1 := hr _ (List.mem_singleton.2 rfl)
          rw [evB_mkCmp] at h1
          replace h1 : j < den ρ len := of_decide_eq_true h1
          refine ⟨_, by simp only [dv, hb, Option.map_some]; rfl, fun w => ?_⟩
          have h2 : j < ((den ρ len).toNat : Int) := by omega
          generalize (den ρ len).toNat = m at h2
          simp [Instr.indexAt, run_underlying hu, asIntOf, den, hj, h2, run_sizeA hs, Addr.add_lit, Nat.add_assoc]
        · cases h
      · split at h
        · rename_i h0
          cases h
          have h1 := hr _ (List.mem_cons_self ..)
          have h2 := hr _ (List.mem_cons_of_mem _ (List.mem_singleton.2 rfl))
          rw [evB_mkCmp] at h1 h2
          replace h1 : 0 ≤ den ρ ix := of_decide_eq_true h1
          replace h2 : den ρ ix < den ρ len := of_decide_eq_true h2
          refine ⟨_, by simp only [dv, hb, Option.map_some]; rfl, fun w => ?_⟩
          have h3 : den ρ ix < ((den ρ len).toNat : Int) := by omega
          generalize (den ρ len).toNat = m at h3
          clear h2 hr
          simp [Instr.indexAt, run_underlying hu, asIntOf, h1, h3, run_sizeA hs, Addr.add_lit, h0, Nat.add_assoc]
        · cases h
    · cases h
  · rename_i e id k ix hu
    simp only [dv, Option.map_eq_some_iff] at hx
    obtain ⟨b, hb, rfl⟩ := hx
    obtain ⟨rfl, hir⟩ := dv_int hi
    clear hir
    split at h
    · rename_i s n cap row ty hs ho
      obtain ⟨b', hb', e1, e2, e3, e4, e5, e6⟩ := hm _ _ ho
      rw [hb] at hb'; cases hb'
      split at h
      · rename_i j
        split at h
        · rename_i hj
          cases h
          have h1 := hr _ (List.mem_singleton.2 rfl)
          rw [evB_mkCmp] at h1
          replace h1 : j < den ρ n := of_decide_eq_true h1
          obtain ⟨e7, _⟩ := e6 (by omega)
          refine ⟨_, by simp only [dv, hb, Option.map_some]; rfl, fun w => ?_⟩
          have h2 : j < (b.len : Int) := by omega
          simp [Instr.indexAt, run_underlying hu, asIntOf, den, hj, h2, run_sizeA hs, Addr.add_lit, e7]
        · cases h
      · cases h
        have h1 := hr _ (List.mem_cons_self ..)
        have h2 := hr _ (List.mem_cons_of_mem _ (List.mem_singleton.2 rfl))
        rw [evB_mkCmp] at h1 h2
        replace h1 : 0 ≤ den ρ ix := of_decide_eq_true h1
        replace h2 : den ρ ix < den ρ n := of_decide_eq_true h2
        obtain ⟨e7, _⟩ := e6 (by omega)
        refine ⟨_, by simp only [dv, hb, Option.map_some]; rfl, fun w => ?_⟩
        have h3 : den ρ ix < (b.len : Int) := by omega
        simp [Instr.indexAt, run_underlying hu, asIntOf, h1, h3, run_sizeA hs, Addr.add_lit, e7]
    · cases h
  · rename_i e id off len skip k ix hu
    simp only [dv, Option.map_eq_some_iff] at hx
    obtain ⟨b, hb, rfl⟩ := hx
    obtain ⟨rfl, hir⟩ := dv_int hi
    clear hir
    split at h
    · rename_i s hs
      split at h
      · rename_i j
        split at h
        · rename_i hj
          cases h
          have h1 := hr _ (List.mem_singleton.2 rfl)
          rw [evB_mkCmp] at h1
          replace h1 : j < den ρ len := of_decide_eq_true h1
          refine ⟨_, by simp only [dv, hb, Option.map_some]; rfl, fun w => ?_⟩
          have h2 : j < ((den ρ len).toNat : Int) := by omega
          generalize (den ρ len).toNat = m at h2
          simp [Instr.indexAt, run_underlying hu, asIntOf, den, hj, h2, run_sizeA hs, Addr.add_lit, Nat.add_assoc]
        · cases h
      · cases h
    · cases h
  · cases h

theorem indexA_sound {t : TypeId} {x i r : AV} {u v : Value} (hx : dv bs ρ x = some u) (hi : dv bs ρ i = some v)
    (h : indexA P t x i = some r) : ∃ z, dv bs ρ r = some z ∧ (Instr.index t u v).run P w = .ok z w := by
  unfold indexA at h
  split at h
  · rename_i n e l k j hu
    split at h
    · rename_i s hs
      split at h
      · rename_i hj
        obtain ⟨rfl, hir⟩ := dv_int hi
        clear hir
        simp only [dv, Option.map_eq_some_iff] at hx
        obtain ⟨vs, hvs, rfl⟩ := hx
        obtain ⟨z, hz, hrun⟩ := partA_sound (w := w) (dvl_members _ hvs) h
        exact ⟨z, hz, by simp [Instr.index, run_underlying hu, asIntOf, den, hj, run_sizeA hs, hrun]⟩
      · cases h
    · cases h
  · cases h

end Go.SX
