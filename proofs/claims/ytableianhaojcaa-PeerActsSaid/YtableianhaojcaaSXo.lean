/- Symbolic execution of the model's code, part 16: an argument that is a slice of structs or arrays of whole numbers. -/
import Derived.Test.YtableianhaojcaaSX3
import Derived.Test.YtableianhaojcaaSXx
import Derived.Deep.Slices
namespace Go.SX
open Go.ChangeShapes Go.WideShapes Go.Deep
variable {H : Type} {enc : TypeId × Value → H} {P : Program} {w : World} {base : Nat} {spare : Nat → Bool} {held : Bool} {bs : List Ent} {ρ : Env}
theorem mapM_all {α β : Type} {f : α → Option β} : ∀ {l : List α} {xs : List β}, l.mapM f = some xs → ∀ a ∈ l, ∃ b, f a = some b
  | [], _, _, a, ha => by cases ha
  | b :: l, xs, h, a, ha => by
    simp only [List.mapM_cons, Option.bind_eq_bind, Option.bind_eq_some_iff, Option.pure_def, Option.some.injEq] at h
    obtain ⟨y, hy, ys, hys, _⟩ := h
    rcases List.mem_cons.1 ha with rfl | ha
    · exact ⟨y, hy⟩
    · exact mapM_all hys a ha
def intB (P : Program) (e : TypeId) (k : IntKind) : Bool := (P.cellsOf e == 1) && match P.underlying e with
  | some (.int k') => decide (k' = k)
  | _ => false
theorem intB_spec {e : TypeId} {k : IntKind} (h : intB P e k = true) : P.cellsOf e = 1 ∧ P.underlying e = some (.int k) := by
  simp only [intB, Bool.and_eq_true, beq_iff_eq] at h
  obtain ⟨h1, h2⟩ := h
  refine ⟨h1, ?_⟩
  split at h2
  · rename_i k' hk
    rw [hk, of_decide_eq_true h2]
  · cases h2
def eltB (P : Program) (e : TypeId) (ks : List IntKind) : Bool := (P.cellsOf e == ks.length) && match P.underlying e with
  | some (.array n e') => (n == ks.length) && ks.all fun k => intB P e' k
  | some (.struct fs) => (List.range ks.length).all fun q => match fs[q]?, ks[q]? with
    | some f, some k => (f.offset == q) && intB P f.type k
    | _, _ => false
  | _ => false
theorem take_one {cs : List Value} {q : Nat} {v : Value} (h : (cs.drop q).take 1 = [v]) : cs[q]? = some v := by
  have := congrArg (fun l => l[0]?) h
  simpa [List.getElem?_take, List.getElem?_drop] using this
theorem elt_cells {e : TypeId} {ks : List IntKind} (he : eltB P e ks = true) {n : Nat} {cs : List Value} {x : DataW H × List MemPlace} (h : DataW.trod enc P w base spare held n e cs = some x) :
    cs.length = ks.length ∧ ∀ (q : Nat) (k : IntKind), ks[q]? = some k → ∃ z, cs[q]? = some (.int k z) ∧ (Lit.int k z).wf = true := by
  simp only [eltB, Bool.and_eq_true, beq_iff_eq] at he
  obtain ⟨hc, he⟩ := he
  split at he
  · rename_i m e' hu
    simp only [Bool.and_eq_true, beq_iff_eq] at he
    obtain ⟨hm, hall⟩ := he
    cases n with
    | zero => simp [DataW.trod] at h
    | succ n =>
      unfold DataW.trod at h
      rw [hu] at h
      simp only at h
      split at h
      · rename_i hl
        simp only [Option.map_eq_some_iff] at h
        obtain ⟨xs, hxs, _⟩ := h
        refine ⟨by omega, fun q k hk => ?_⟩
        have hq : q < ks.length := (List.getElem?_eq_some_iff.1 hk).1
        obtain ⟨e1, e2⟩ := intB_spec (List.all_eq_true.1 hall k (List.mem_of_getElem? hk))
        obtain ⟨y, hy⟩ := mapM_all hxs q (List.mem_range.2 (by omega))
        rw [e1, Nat.mul_one] at hy
        obtain ⟨z, hz, _, hw⟩ := DataW.trod_int e2 hy
        exact ⟨z, take_one hz, hw⟩
      · cases h
  · rename_i fs hu
    obtain ⟨xs, m, _, _, hl, hxl, hf⟩ := DataW.trod_struct hu h
    refine ⟨by omega, fun q k hk => ?_⟩
    have hq : q < ks.length := (List.getElem?_eq_some_iff.1 hk).1
    have h1 := List.all_eq_true.1 he q (List.mem_range.2 hq)
    rw [hk] at h1
    split at h1
    · rename_i f k' hfq hk'
      cases hk'
      simp only [Bool.and_eq_true, beq_iff_eq] at h1
      obtain ⟨e1, e2⟩ := intB_spec h1.2
      have h2 := hf q f hfq
      rw [h1.1, e1] at h2
      have hlt : q < xs.length := by rw [hxl]; exact (Array.getElem?_eq_some_iff.1 hfq).1
      rw [List.getElem?_eq_getElem hlt] at h2
      obtain ⟨z, hz, _, hw⟩ := DataW.trod_int e2 h2
      exact ⟨z, take_one hz, hw⟩
    · cases h1
  · cases he
def IsRows (ks : List IntKind) (w : World) (a : Option Addr) (len cap : Nat) (g : Nat → Nat → Int) : Prop :=
  (a = none ∧ len = 0 ∧ cap = 0) ∨
  ∃ x, a = some x ∧ len ≤ cap ∧ cap ≤ maxLen ∧ ∀ i, i < cap → ∀ (q : Nat) (k : IntKind), ks[q]? = some k → w.cell? (x.add (i * ks.length + q)) = some (.int k (g q i)) ∧ (Lit.int k (g q i)).wf = true
theorem open_aggs {t e : TypeId} {ks : List IntKind} (ht : P.underlying t = some (.slice e)) (he : eltB P e ks = true) {fuel : Nat} {a : Option Addr} {len cap : Nat} {x : DataW H × List MemPlace}
    (h : DataW.trod enc P w base (fun _ => true) held fuel t [.slice a len cap] = some x) : ∃ g, IsRows ks w a len cap g := by
  rcases Go.Deep.open_slice ht h with ⟨h0, _⟩ | ⟨y, l, c, m, n, D, Pl, hcs, _, hl, hm, hmm, _, hx⟩
  · simp only [List.cons.injEq, Value.slice.injEq, and_true] at h0
    exact ⟨fun _ _ => 0, .inl h0⟩
  · simp only [List.cons.injEq, Value.slice.injEq, and_true] at hcs
    obtain ⟨rfl, rfl, rfl⟩ := hcs
    have hmm' : m = cap := by simpa using hmm
    subst hmm'
    have hce : P.cellsOf e = ks.length := by simp only [eltB, Bool.and_eq_true, beq_iff_eq] at he; exact he.1
    refine ⟨fun q i => match w.cell? (y.add (i * ks.length + q)) with | some (.int _ z) => z | _ => 0, .inr ⟨y, rfl, hl, hm, fun i hi q k hk => ?_⟩⟩
    obtain ⟨cs', h1, h2⟩ := hx i hi
    obtain ⟨_, hcl, hcell⟩ := World.cells?_some h1
    obtain ⟨h3, h4⟩ := elt_cells he h2
    obtain ⟨z, hz, hw⟩ := h4 q k hk
    have hq : q < ks.length := (List.getElem?_eq_some_iff.1 hk).1
    have h5 := hcell q (by omega)
    rw [hce, hz] at h5
    rw [add_add] at h5
    simp only [h5]
    exact ⟨trivial, hw⟩
def rowOf (g : Nat → Nat → Int) (cap q : Nat) : List Int := (List.range cap).map (g q)
theorem rowOf_get (g : Nat → Nat → Int) {cap q i : Nat} (h : i < cap) : (rowOf g cap q).getD i 0 = g q i := by
  unfold rowOf
  rw [List.getD_eq_getElem?_getD, List.getElem?_eq_getElem (by simpa using h)]
  simp
theorem orel_rows {ks : List IntKind} {W : World} {a : Option Addr} {len cap : Nat} {g : Nat → Nat → Int} (h : IsRows ks W a len cap g) {n c : SE} {row : List (IntKind × Nat)} {ty : TypeId} (hk : row.map (·.1) = ks) (h0 : 0 < ks.length)
    (hn : den ρ n = len) (hc : den ρ c = cap) (hf : ∀ (q : Nat) p, row[q]? = some p → ∀ i : Nat, i < cap → ρ.f p.2 [(i : Int)] = g q i) : ORel bs ρ W (entOf a len cap) (.sym n c (row.map fun p => .int p.1 p.2) ty) := by
  have e1 : len = (den ρ n).toNat := by omega
  have e2 : cap = (den ρ c).toNat := by omega
  have hlen : (row.map fun p => Col.int p.1 p.2).length = ks.length := by rw [← hk, List.length_map, List.length_map]
  rcases h with ⟨rfl, rfl, rfl⟩ | ⟨x, rfl, hle, hmax, hcell⟩
  · exact ⟨e1, e2, by omega, by omega, by omega, fun h => by omega⟩
  · refine ⟨e1, e2, by omega, by omega, by unfold maxLen at hmax; omega, fun h => ?_⟩
    have hc0 : 0 < cap := by omega
    obtain ⟨h1, _⟩ := hcell 0 hc0 0 ks[0] (List.getElem?_eq_getElem h0)
    have hx : x.add (0 * ks.length + 0) = x := by simp [Addr.add]
    rw [hx] at h1
    have hspot : x.spot = none := by
      unfold World.cell? at h1
      split at h1
      · split at h1
        · cases h1
        · rename_i hs; simpa using hs
      · cases h1
    obtain ⟨b, o, s⟩ := x
    simp only at hspot
    subst hspot
    refine ⟨rfl, World.block_lt_of_cell? W _ h1, fun i q p' hi hp' => ?_⟩
    obtain ⟨p, hp, rfl⟩ : ∃ p, row[q]? = some p ∧ Col.int p.1 p.2 = p' := by simpa [List.getElem?_map, Option.map_eq_some_iff] using hp'
    have hq : ks[q]? = some p.1 := by rw [← hk, List.getElem?_map, hp]; rfl
    obtain ⟨h2, h3⟩ := hcell i (by omega) q p.1 hq
    have e3 : (⟨b, o, none⟩ : Addr).add (i * ks.length + q) = ⟨b, o + (i * ks.length + q), none⟩ := add_at b o _
    rw [e3] at h2
    show _ = some (Value.int p.1 (ρ.f p.2 [(i : Int)])) ∧ inR p.1 (ρ.f p.2 [(i : Int)]) = true
    rw [hf q p hp i (by omega), hlen]
    exact ⟨h2, wf_inR h3⟩
theorem rows_le {ks : List IntKind} {W : World} {a : Option Addr} {len cap : Nat} {g : Nat → Nat → Int} (h : IsRows ks W a len cap g) : (len : Int) ≤ cap := by
  rcases h with ⟨rfl, rfl, rfl⟩ | ⟨x, rfl, hle, _⟩ <;> omega
theorem rows_inR {ks : List IntKind} {W : World} {a : Option Addr} {len cap : Nat} {g : Nat → Nat → Int} (h : IsRows ks W a len cap g) {q : Nat} {k : IntKind} (hk : ks[q]? = some k) (i : Int) (h0 : 0 ≤ i) (h1 : i < len) :
    inR k ((rowOf g cap q).getD i.toNat 0) = true := by
  rcases h with ⟨rfl, rfl, rfl⟩ | ⟨x, rfl, hle, hmax, hcell⟩
  · omega
  · rw [rowOf_get g (by omega)]
    exact wf_inR (hcell i.toNat (by omega) q k hk).2
inductive FK where
  | int (k : IntKind)
  | sl (k : IntKind)
def mixB (P : Program) (fs : Array Field) (ks : List FK) : Bool := (fs.size == ks.length) && (List.range ks.length).all fun q => match fs[q]?, ks[q]? with
  | some f, some (.int k) => (f.offset == q) && intB P f.type k
  | some f, some (.sl k) => (f.offset == q) && (P.cellsOf f.type == 1) && match P.underlying f.type with
    | some (.slice e) => intB P e k
    | _ => false
  | _, _ => false
def FK.is (w : World) (k : FK) (v : Value) : Prop := match k with
  | .int k => ∃ z, v = .int k z ∧ (Lit.int k z).wf = true
  | .sl k => ∃ a len cap zs, v = .slice a len cap ∧ IsRow k w a len cap zs
theorem open_mixed {r : Reach} {b0 : Nat} {t : TypeId} {fs : Array Field} {ks : List FK} {v : Value} {d : DataW H} {p : List MemPlace} (hs : P.underlying t = some (.struct fs)) (hB : mixB P fs ks = true) (hC : P.cellsOf t = ks.length)
    (hv : Value.okWide P w r b0 t v) (h : DataW.Trod enc P w base (fun _ => true) held t v d p) :
    ∃ cs : List Value, v = .agg cs.toArray ∧ cs.length = ks.length ∧ ∀ (q : Nat) (k : FK), ks[q]? = some k → ∃ c, cs[q]? = some c ∧ k.is w c := by
  obtain ⟨cs, rfl, hsz⟩ := okWide_struct hs hv
  obtain ⟨fuel, hf⟩ := h
  refine ⟨cs.toList, by simp, by simp [hsz, hC], fun q k hk => ?_⟩
  have hcells : (Value.agg cs).cells = cs := rfl
  rw [hcells] at hf
  obtain ⟨xs, n, _, _, hl, hxl, hfd⟩ := DataW.trod_struct hs hf
  simp only [mixB, Bool.and_eq_true, beq_iff_eq] at hB
  obtain ⟨hB1, hB2⟩ := hB
  have hq : q < ks.length := (List.getElem?_eq_some_iff.1 hk).1
  have h1 := List.all_eq_true.1 hB2 q (List.mem_range.2 hq)
  rw [hk] at h1
  have hfq : fs[q]? = some fs[q] := Array.getElem?_eq_getElem (by omega)
  rw [hfq] at h1
  have h2 := hfd q _ hfq
  have hlt : q < xs.length := by omega
  rw [List.getElem?_eq_getElem hlt] at h2
  cases k with
  | int k =>
    simp only [Bool.and_eq_true, beq_iff_eq] at h1
    obtain ⟨e1, e2⟩ := intB_spec h1.2
    rw [h1.1, e1] at h2
    obtain ⟨z, hz, _, hw⟩ := DataW.trod_int e2 h2
    exact ⟨_, take_one hz, z, rfl, hw⟩
  | sl k =>
    simp only [Bool.and_eq_true, beq_iff_eq] at h1
    obtain ⟨⟨h3, h4⟩, h5⟩ := h1
    rw [h3, h4] at h2
    split at h5
    · rename_i e he
      obtain ⟨e1, e2⟩ := intB_spec h5
      rcases open_ints he e2 e1 h2 with ⟨hcs, _⟩ | ⟨x, l, c, zs, hcs, _, hl, hm, hz, _, hcell, hwz⟩
      · exact ⟨_, take_one hcs, none, 0, 0, [], rfl, .inl ⟨rfl, rfl, rfl, rfl⟩⟩
      · exact ⟨_, take_one hcs, some x, l, c, zs, rfl, .inr ⟨_, rfl, hl, hm, by simpa using hz, hcell, hwz⟩⟩
    · cases h5
theorem lenN {α : Type} {n : Nat} {l : List α} (h : l.length = n + 1) : ∃ a r, l = a :: r ∧ r.length = n := by
  cases l with
  | nil => simp at h
  | cons a r => exact ⟨a, r, rfl, by simpa using h⟩
/-! ### a row of structs whose members are whole numbers, or slices of bytes -/
theorem elt_mixed {e : TypeId} {fs : Array Field} {ks : List FK} (hu : P.underlying e = some (.struct fs)) (hB : mixB P fs ks = true) (hC : P.cellsOf e = ks.length) {n : Nat} {cs : List Value} {x : DataW H × List MemPlace}
    (h : DataW.trod enc P w base (fun _ => true) held n e cs = some x) : cs.length = ks.length ∧ ∀ (q : Nat) (k : FK), ks[q]? = some k → ∃ c, cs[q]? = some c ∧ k.is w c := by
  obtain ⟨xs, m, _, _, hl, hxl, hfd⟩ := DataW.trod_struct hu h
  refine ⟨by omega, fun q k hk => ?_⟩
  simp only [mixB, Bool.and_eq_true, beq_iff_eq] at hB
  obtain ⟨hB1, hB2⟩ := hB
  have hq : q < ks.length := (List.getElem?_eq_some_iff.1 hk).1
  have h1 := List.all_eq_true.1 hB2 q (List.mem_range.2 hq)
  rw [hk] at h1
  have hfq : fs[q]? = some fs[q] := Array.getElem?_eq_getElem (by omega)
  rw [hfq] at h1
  have h2 := hfd q _ hfq
  have hlt : q < xs.length := by omega
  rw [List.getElem?_eq_getElem hlt] at h2
  cases k with
  | int k =>
    simp only [Bool.and_eq_true, beq_iff_eq] at h1
    obtain ⟨e1, e2⟩ := intB_spec h1.2
    rw [h1.1, e1] at h2
    obtain ⟨z, hz, _, hw⟩ := DataW.trod_int e2 h2
    exact ⟨_, take_one hz, z, rfl, hw⟩
  | sl k =>
    simp only [Bool.and_eq_true, beq_iff_eq] at h1
    obtain ⟨⟨h3, h4⟩, h5⟩ := h1
    rw [h3, h4] at h2
    split at h5
    · rename_i e he
      obtain ⟨e1, e2⟩ := intB_spec h5
      rcases open_ints he e2 e1 h2 with ⟨hcs, _⟩ | ⟨x, l, c, zs, hcs, _, hl, hm, hz, _, hcell, hwz⟩
      · exact ⟨_, take_one hcs, none, 0, 0, [], rfl, .inl ⟨rfl, rfl, rfl, rfl⟩⟩
      · exact ⟨_, take_one hcs, some x, l, c, zs, rfl, .inr ⟨_, rfl, hl, hm, by simpa using hz, hcell, hwz⟩⟩
    · cases h5
def IsMixes (ks : List FK) (w : World) (a : Option Addr) (len cap : Nat) (g : Nat → Nat → Value) : Prop :=
  (a = none ∧ len = 0 ∧ cap = 0) ∨
  ∃ x, a = some x ∧ len ≤ cap ∧ cap ≤ maxLen ∧ ∀ i, i < cap → ∀ (q : Nat) (k : FK), ks[q]? = some k → w.cell? (x.add (i * ks.length + q)) = some (g q i) ∧ k.is w (g q i)
theorem open_mixes {t e : TypeId} {fs : Array Field} {ks : List FK} (ht : P.underlying t = some (.slice e)) (hu : P.underlying e = some (.struct fs)) (hB : mixB P fs ks = true) (hC : P.cellsOf e = ks.length) {fuel : Nat} {a : Option Addr} {len cap : Nat}
    {x : DataW H × List MemPlace} (h : DataW.trod enc P w base (fun _ => true) held fuel t [.slice a len cap] = some x) : ∃ g, IsMixes ks w a len cap g := by
  rcases Go.Deep.open_slice ht h with ⟨h0, _⟩ | ⟨y, l, c, m, n, D, Pl, hcs, _, hl, hm, hmm, _, hx⟩
  · simp only [List.cons.injEq, Value.slice.injEq, and_true] at h0
    exact ⟨fun _ _ => undef, .inl h0⟩
  · simp only [List.cons.injEq, Value.slice.injEq, and_true] at hcs
    obtain ⟨rfl, rfl, rfl⟩ := hcs
    have hmm' : m = cap := by simpa using hmm
    subst hmm'
    refine ⟨fun q i => (w.cell? (y.add (i * ks.length + q))).getD undef, .inr ⟨y, rfl, hl, hm, fun i hi q k hk => ?_⟩⟩
    obtain ⟨cs', h1, h2⟩ := hx i hi
    obtain ⟨_, hcl, hcell⟩ := World.cells?_some h1
    obtain ⟨h3, h4⟩ := elt_mixed hu hB hC h2
    obtain ⟨v, hv, hw⟩ := h4 q k hk
    have hq : q < ks.length := (List.getElem?_eq_some_iff.1 hk).1
    have h5 := hcell q (by omega)
    rw [hC, hv] at h5
    rw [add_add] at h5
    simp only [h5, Option.getD_some]
    exact ⟨trivial, hw⟩
def intOf : Value → Int
  | .int _ z => z
  | _ => 0
def encB : Value → Int
  | .slice (some a) _ _ => if a.spot.isSome = true then 2 * (a.block : Int) + 1 else 2 * (a.block : Int)
  | _ => -1
def encO : Value → Int
  | .slice (some a) _ _ => a.off
  | _ => 0
def encN : Value → Int
  | .slice _ n _ => n
  | _ => 0
def encC : Value → Int
  | .slice (some ⟨_, _, some s⟩) _ _ => s
  | .slice _ _ c => c
  | _ => 0
theorem xsV_enc {a : Option Addr} {len cap : Nat} (h : ∀ x, a = some x → x.spot.isSome = true → cap = 0) : xsV (encB (.slice a len cap)) (encO (.slice a len cap)) (encN (.slice a len cap)) (encC (.slice a len cap)) = .slice a len cap := by
  match a with
  | none => rfl
  | some ⟨b, o, none⟩ =>
    show xsV (2 * (b : Int)) o len cap = _
    unfold xsV
    rw [if_neg (by omega), if_pos (by omega)]
    have : (2 * (b : Int) / 2).toNat = b := by omega
    rw [this]
    simp
  | some ⟨b, o, some s⟩ =>
    obtain rfl := h _ rfl rfl
    show xsV (2 * (b : Int) + 1) o len s = _
    unfold xsV
    rw [if_neg (by omega), if_neg (by omega)]
    have : ((2 * (b : Int) + 1) / 2).toNat = b := by omega
    rw [this]
    simp
def byteAt (W : World) : List Int → Int
  | [b, o, i] => match W.cell? ⟨(b / 2).toNat, o.toNat + i.toNat, none⟩ with
    | some (.int _ z) => z
    | _ => 0
  | _ => 0
theorem row_spot {k : IntKind} {w : World} {a : Option Addr} {len cap : Nat} {zs : List Int} (h : IsRow k w a len cap zs) : ∀ x, a = some x → x.spot.isSome = true → cap = 0 := by
  rintro x rfl hs
  rcases h with ⟨h, _⟩ | ⟨x', hx, _, _, hz, hcell, _⟩
  · cases h
  · cases hx
    false_or_by_contra
    rename_i hne
    have h0 := hcell 0 (by omega)
    have hx : x.add 0 = x := by simp [Addr.add]
    rw [hx] at h0
    unfold World.cell? at h0
    split at h0
    · rw [if_pos hs] at h0; cases h0
    · cases h0
theorem row_xok {w : World} {a : Option Addr} {len cap : Nat} {zs : List Int} (h : IsRow .u8 w a len cap zs) :
    XOk (byteAt w) (· < w.heap.size) w (encB (.slice a len cap)) (encO (.slice a len cap)) (encN (.slice a len cap)) (encC (.slice a len cap)) := by
  have hsp := row_spot h
  refine ⟨a, len, cap, xsV_enc hsp, rfl, ?_, ?_, fun hc => ?_⟩
  · rcases h with ⟨_, rfl, rfl, _⟩ | ⟨_, _, h, _⟩ <;> omega
  · rcases h with ⟨_, rfl, rfl, _⟩ | ⟨_, _, _, h, _⟩
    · omega
    · unfold maxLen at h; omega
  · rcases h with ⟨_, _, h0, _⟩ | ⟨x, rfl, hl, hm, hz, hcell, hwf⟩
    · omega
    · obtain ⟨b, o, s⟩ := x
      have hs : s = none := by
        cases s with
        | none => rfl
        | some s => have := hsp _ rfl rfl; omega
      subst hs
      have h0 := hcell 0 (by omega)
      refine ⟨b, o, rfl, ?_, ?_, fun i hi => ?_⟩
      · have hx : (⟨b, o, none⟩ : Addr).add 0 = ⟨b, o, none⟩ := by simp [Addr.add]
        rw [hx] at h0
        exact World.block_lt_of_cell? w _ h0
      · have hx : (⟨b, o, none⟩ : Addr).add 0 = ⟨b, o, none⟩ := by simp [Addr.add]
        rw [hx] at h0
        exact World.block_lt_of_cell? w _ h0
      · have hi' := hcell i (by omega)
        rw [add_at] at hi'
        have hb : byteAt w [encB (.slice (some ⟨b, o, none⟩) len cap), encO (.slice (some ⟨b, o, none⟩) len cap), (i : Int)] = zs.getD i 0 := by
          show (match w.cell? ⟨(2 * (b : Int) / 2).toNat, (o : Int).toNat + (i : Int).toNat, none⟩ with | some (.int _ z) => z | _ => 0) = _
          have e1 : (2 * (b : Int) / 2).toNat = b := by omega
          rw [e1, Int.toNat_natCast, Int.toNat_natCast, hi']
        rw [hb]
        refine ⟨hi', wf_inR (hwf _ ?_)⟩
        rw [List.getD_eq_getElem?_getD, List.getElem?_eq_getElem (by omega)]
        exact List.getElem_mem _
def colOfV (φ : Value → Int) (g : Nat → Nat → Value) (cap q : Nat) : List Int := (List.range cap).map fun i => φ (g q i)
theorem colOfV_get (φ : Value → Int) (g : Nat → Nat → Value) {cap q i : Nat} (h : i < cap) : (colOfV φ g cap q).getD i 0 = φ (g q i) := by
  unfold colOfV
  rw [List.getD_eq_getElem?_getD, List.getElem?_eq_getElem (by simpa using h)]
  simp
theorem colOfV_off (φ : Value → Int) (g : Nat → Nat → Value) {cap q i : Nat} (h : cap ≤ i) : (colOfV φ g cap q).getD i 0 = 0 := by
  unfold colOfV
  rw [List.getD_eq_getElem?_getD, List.getElem?_eq_none (by simpa using h)]
  rfl
theorem mixes_is {ks : List FK} {w : World} {a : Option Addr} {len cap : Nat} {g : Nat → Nat → Value} (h : IsMixes ks w a len cap g) {q : Nat} {k : FK} (hk : ks[q]? = some k) {i : Nat} (hi : i < cap) : k.is w (g q i) := by
  rcases h with ⟨_, _, rfl⟩ | ⟨x, _, _, _, hc⟩
  · omega
  · exact (hc i hi q k hk).2
theorem col_int {ks : List FK} {w : World} {a : Option Addr} {len cap : Nat} {g : Nat → Nat → Value} (h : IsMixes ks w a len cap g) {q j : Nat} {k : IntKind} (hk : ks[q]? = some (.int k)) (hf : ∀ i : Nat, i < cap → ρ.f j [(i : Int)] = (colOfV intOf g cap q).getD i 0) :
    ∀ i : Nat, i < cap → colV ρ i (.int k j) = g q i ∧ colOk ρ i (.int k j) = true := by
  intro i hi
  obtain ⟨z, hz, hw⟩ := mixes_is h hk hi
  have e1 : ρ.f j [(i : Int)] = z := by rw [hf i hi, colOfV_get _ _ hi, hz]; rfl
  simp only [colV, colOk, e1]
  exact ⟨hz.symm, wf_inR hw⟩
theorem col_sl {ks : List FK} {w : World} {a : Option Addr} {len cap : Nat} {g : Nat → Nat → Value} (h : IsMixes ks w a len cap g) {q jb jo jn jc : Nat} {k : IntKind} (hk : ks[q]? = some (.sl k)) (hb : ∀ i : Nat, i < cap → ρ.f jb [(i : Int)] = (colOfV encB g cap q).getD i 0)
    (ho : ∀ i : Nat, i < cap → ρ.f jo [(i : Int)] = (colOfV encO g cap q).getD i 0) (hn : ∀ i : Nat, i < cap → ρ.f jn [(i : Int)] = (colOfV encN g cap q).getD i 0) (hc : ∀ i : Nat, i < cap → ρ.f jc [(i : Int)] = (colOfV encC g cap q).getD i 0) :
    ∀ i : Nat, i < cap → colV ρ i (.sl jb jo jn jc) = g q i ∧ colOk ρ i (.sl jb jo jn jc) = true := by
  intro i hi
  obtain ⟨b, l, c, zs, hz, hr⟩ := mixes_is h hk hi
  refine ⟨?_, rfl⟩
  simp only [colV]
  rw [hb i hi, ho i hi, hn i hi, hc i hi, colOfV_get _ _ hi, colOfV_get _ _ hi, colOfV_get _ _ hi, colOfV_get _ _ hi, hz]
  exact xsV_enc (row_spot hr)
theorem mixes_xok {ks : List FK} {w : World} {a : Option Addr} {len cap : Nat} {g : Nat → Nat → Value} (h : IsMixes ks w a len cap g) {q : Nat} (hk : ks[q]? = some (.sl .u8)) (i : Nat) :
    XOk (byteAt w) (· < w.heap.size) w ((colOfV encB g cap q).getD i 0) ((colOfV encO g cap q).getD i 0) ((colOfV encN g cap q).getD i 0) ((colOfV encC g cap q).getD i 0) := by
  by_cases hi : i < cap
  · obtain ⟨b, l, c, zs, hz, hr⟩ := mixes_is h hk hi
    rw [colOfV_get _ _ hi, colOfV_get _ _ hi, colOfV_get _ _ hi, colOfV_get _ _ hi, hz]
    exact row_xok hr
  · rw [colOfV_off _ _ (by omega), colOfV_off _ _ (by omega), colOfV_off _ _ (by omega), colOfV_off _ _ (by omega)]
    exact ⟨some ⟨0, 0, none⟩, 0, 0, rfl, rfl, by omega, by omega, fun h => by omega⟩
theorem orel_mixes {ks : List FK} {W : World} {a : Option Addr} {len cap : Nat} {g : Nat → Nat → Value} (h : IsMixes ks W a len cap g) {n c : SE} {row : List Col} {ty : TypeId} (hk : row.length = ks.length) (h0 : 0 < ks.length)
    (hn : den ρ n = len) (hc : den ρ c = cap) (hf : ∀ (q : Nat) p, row[q]? = some p → ∀ i : Nat, i < cap → colV ρ i p = g q i ∧ colOk ρ i p = true) : ORel bs ρ W (entOf a len cap) (.sym n c row ty) := by
  have e1 : len = (den ρ n).toNat := by omega
  have e2 : cap = (den ρ c).toNat := by omega
  rcases h with ⟨rfl, rfl, rfl⟩ | ⟨x, rfl, hle, hmax, hcell⟩
  · exact ⟨e1, e2, by omega, by omega, by omega, fun h => by omega⟩
  · refine ⟨e1, e2, by omega, by omega, by unfold maxLen at hmax; omega, fun h => ?_⟩
    have hc0 : 0 < cap := by omega
    obtain ⟨h1, _⟩ := hcell 0 hc0 0 ks[0] (List.getElem?_eq_getElem h0)
    have hx : x.add (0 * ks.length + 0) = x := by simp [Addr.add]
    rw [hx] at h1
    have hspot : x.spot = none := by
      unfold World.cell? at h1
      split at h1
      · split at h1
        · cases h1
        · rename_i hs; simpa using hs
      · cases h1
    obtain ⟨b, o, s⟩ := x
    simp only at hspot
    subst hspot
    refine ⟨rfl, World.block_lt_of_cell? W _ h1, fun i q p hi hp => ?_⟩
    have hq : q < ks.length := by rw [← hk]; exact (List.getElem?_eq_some_iff.1 hp).1
    obtain ⟨h2, _⟩ := hcell i (by omega) q ks[q] (List.getElem?_eq_getElem hq)
    have e3 : (⟨b, o, none⟩ : Addr).add (i * ks.length + q) = ⟨b, o + (i * ks.length + q), none⟩ := add_at b o _
    rw [e3] at h2
    obtain ⟨h3, h4⟩ := hf q p hp i (by omega)
    rw [h3, hk]
    exact ⟨h2, h4⟩
theorem mixes_le {ks : List FK} {W : World} {a : Option Addr} {len cap : Nat} {g : Nat → Nat → Value} (h : IsMixes ks W a len cap g) : (len : Int) ≤ cap := by
  rcases h with ⟨rfl, rfl, rfl⟩ | ⟨x, rfl, hle, _⟩ <;> omega
theorem mixes_inR {ks : List FK} {W : World} {a : Option Addr} {len cap : Nat} {g : Nat → Nat → Value} (h : IsMixes ks W a len cap g) {q : Nat} {k : IntKind} (hk : ks[q]? = some (.int k)) (i : Int) (h0 : 0 ≤ i) (h1 : i < len) :
    inR k ((colOfV intOf g cap q).getD i.toNat 0) = true := by
  have := mixes_le h
  obtain ⟨z, hz, hw⟩ := mixes_is h hk (i := i.toNat) (by omega)
  rw [colOfV_get _ _ (by omega), hz]
  exact wf_inR hw
end Go.SX
