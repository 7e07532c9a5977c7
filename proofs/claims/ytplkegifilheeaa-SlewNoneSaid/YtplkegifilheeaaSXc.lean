/- Symbolic execution of the model's code, part 3: the operations that only compute or read do what part 2 says. -/
import Derived.Test.YtplkegifilheeaaSXb
import Derived.Laws.Cells
import Derived.Laws.Rows
import Derived.Laws.StructEq
import Derived.Laws.Pointers
import Derived.Laws.Build
namespace Go.SX
set_option linter.unusedSimpArgs false
set_option linter.unusedVariables false

theorem evB_lit_ofB (ρ : Env) (b : Bool) : evB ρ (.lit (ofB b)) = b := by cases b <;> rfl
@[simp] theorem ofB_bne (b : Bool) : (ofB b != 0) = b := by cases b <;> rfl
theorem ofB_eq (b : Bool) : (ofB b == 0) = !b := by cases b <;> rfl
@[simp] theorem den_lit (ρ : Env) (n : Int) : den ρ (.lit n) = n := rfl

theorem den_mkBin (ρ : Env) (op : BinOp) (k : IntKind) (a b : SE) : den ρ (mkBin op k a b) = binI op k (den ρ a) (den ρ b) := by
  unfold mkBin; split <;> rfl
theorem den_mkConv (ρ : Env) (k : IntKind) (a : SE) : den ρ (mkConv k a) = k.wrap (den ρ a) := by
  unfold mkConv; split <;> rfl
theorem den_mkMx (ρ : Env) (a b : SE) : den ρ (mkMx a b) = if den ρ b > den ρ a then den ρ b else den ρ a := by
  unfold mkMx; split <;> rfl
theorem den_mkMn (ρ : Env) (a b : SE) : den ρ (mkMn a b) = if den ρ b < den ρ a then den ρ b else den ρ a := by
  unfold mkMn; split <;> rfl
theorem cmpI_same (op : BinOp) (x : Int) : cmpI op x x = cmpI op 0 0 := by
  cases op <;> simp [cmpI]
theorem den_cmp0 (ρ : Env) (op : BinOp) (a b : SE) : den ρ (cmp0 op a b) = ofB (cmpI op (den ρ a) (den ρ b)) := by
  unfold cmp0
  split
  · rfl
  · split
    · rename_i h; have h := beqS_eq h; subst h; rw [cmpI_same op (den ρ a)]; rfl
    · rfl
theorem den_mkCmp (ρ : Env) (op : BinOp) (a b : SE) : den ρ (mkCmp op a b) = ofB (cmpI op (den ρ a) (den ρ b)) := by
  unfold mkCmp
  split
  · rw [den_cmp0]; rfl
  · rw [den_cmp0]; rfl
  · rw [den_cmp0]
theorem evB_mkCmp (ρ : Env) (op : BinOp) (a b : SE) : evB ρ (mkCmp op a b) = cmpI op (den ρ a) (den ρ b) := by
  unfold evB; rw [den_mkCmp, ofB_bne]
theorem den_mkNot (ρ : Env) (a : SE) : den ρ (mkNot a) = ofB (!evB ρ a) := by
  have h0 : ∀ x : Int, (!(x != 0)) = (x == 0) := by intro x; simp [bne]
  unfold mkNot
  split <;> simp only [den, evB, ofB_bne, h0, ofB_eq, Bool.not_not, cmpI]
  all_goals first
    | rfl
    | (congr 1; rw [Bool.eq_iff_iff]; simp; try omega)
theorem evB_mkNot (ρ : Env) (a : SE) : evB ρ (mkNot a) = !evB ρ a := by
  show (den ρ (mkNot a) != 0) = _
  rw [den_mkNot, ofB_bne]
theorem evB_mkAnd (ρ : Env) (a b : SE) : evB ρ (mkAnd a b) = (evB ρ a && evB ρ b) := by
  unfold mkAnd
  split
  · rename_i n b
    split
    · rename_i h; subst h; simp [evB, den]
    · rename_i h; simp [evB, den, h]
  · rename_i n _
    split
    · rename_i h; subst h; simp [evB, den]
    · rename_i h; simp [evB, den, h]
  · simp [evB, den]

/-! ### values -/
variable {bs : List Ent} {ρ : Env}

theorem dv_int {k : IntKind} {e : SE} {v : Value} (h : dv bs ρ (.int k e) = some v) : v = .int k (den ρ e) ∧ inR k (den ρ e) = true := by
  simp only [dv] at h
  split at h
  · rename_i hr; cases h; exact ⟨rfl, hr⟩
  · cases h
theorem dv_int_mk {k : IntKind} {e : SE} (h : inR k (den ρ e) = true) : dv bs ρ (.int k e) = some (.int k (den ρ e)) := by simp only [dv, h, if_true]

theorem wrap_inR (k : IntKind) (n : Int) : inR k (k.wrap n) = true := by
  unfold inR
  rw [decide_eq_true_eq]
  cases k <;> simp only [IntKind.wrap, IntKind.min, IntKind.max, IntKind.bits, IntKind.signed] <;> simp <;> omega

theorem tmod_inR (k : IntKind) {x : Int} (y : Int) (h : inR k x = true) : inR k (x.tmod y) = true := by
  unfold inR at h ⊢
  rw [decide_eq_true_eq] at h ⊢
  have h1 : 0 ≤ x → 0 ≤ x.tmod y ∧ x.tmod y ≤ x := fun hx => by
    rw [Int.tmod_eq_emod_of_nonneg hx]
    by_cases hy : y = 0
    · subst hy; simp; exact hx
    · refine ⟨Int.emod_nonneg _ hy, ?_⟩
      have h2 := Int.emod_add_mul_ediv x y
      rcases Int.lt_or_gt_of_ne hy with hy | hy
      · have h3 : x / y ≤ 0 := Int.ediv_nonpos_of_nonneg_of_nonpos hx (by omega)
        have h4 : 0 ≤ y * (x / y) := Int.mul_nonneg_of_nonpos_of_nonpos (by omega) h3
        omega
      · have h3 : 0 ≤ x / y := Int.ediv_nonneg hx (by omega)
        have h4 : 0 ≤ y * (x / y) := Int.mul_nonneg (by omega) h3
        omega
  have h2 : x ≤ 0 → x ≤ x.tmod y ∧ x.tmod y ≤ 0 := fun hx => by
    have h3 : (-x).tmod y = -(x.tmod y) := Int.neg_tmod ..
    have h4 : 0 ≤ (-x).tmod y ∧ (-x).tmod y ≤ -x := by
      have hx' : 0 ≤ -x := by omega
      rw [Int.tmod_eq_emod_of_nonneg hx']
      by_cases hy : y = 0
      · subst hy; simp; exact hx
      · refine ⟨Int.emod_nonneg _ hy, ?_⟩
        have h2 := Int.emod_add_mul_ediv (-x) y
        rcases Int.lt_or_gt_of_ne hy with hy | hy
        · have h3 : (-x) / y ≤ 0 := Int.ediv_nonpos_of_nonneg_of_nonpos hx' (by omega)
          have h4 : 0 ≤ y * ((-x) / y) := Int.mul_nonneg_of_nonpos_of_nonpos (by omega) h3
          omega
        · have h3 : 0 ≤ (-x) / y := Int.ediv_nonneg hx' (by omega)
          have h4 : 0 ≤ y * ((-x) / y) := Int.mul_nonneg (by omega) h3
          omega
    omega
  have h0 : k.min ≤ 0 ∧ 0 ≤ k.max := by cases k <;> decide
  rcases Int.le_total 0 x with hx | hx
  · have := h1 hx; omega
  · have := h2 hx; omega

theorem fdiv_inR (k : IntKind) {x : Int} (n : Nat) (h : inR k x = true) : inR k (x.fdiv (2 ^ n)) = true := by
  unfold inR at h ⊢
  rw [decide_eq_true_eq] at h ⊢
  have hp : (0 : Int) < 2 ^ n := Int.pow_pos (by decide)
  rw [Int.fdiv_eq_ediv_of_nonneg _ (Int.le_of_lt hp)]
  have h0 : k.min ≤ 0 ∧ 0 ≤ k.max := by cases k <;> decide
  have h1 : (1 : Int) ≤ 2 ^ n := hp
  have h2 := Int.mul_ediv_add_emod x (2 ^ n)
  have h3 := Int.emod_nonneg x (Int.ne_of_gt hp)
  have h4 := Int.emod_lt_of_pos x hp
  generalize (2 : Int) ^ n = p at *
  generalize x / p = q at *
  rcases Int.le_total 0 x with hx | hx
  · have h5 : 0 ≤ q := by
      rcases Int.lt_or_le q 0 with h6 | h6
      · have h7 : p * q ≤ p * (-1) := Int.mul_le_mul_of_nonneg_left (by omega) (by omega)
        omega
      · exact h6
    have h6 : 1 * q ≤ p * q := Int.mul_le_mul_of_nonneg_right h1 h5
    omega
  · have h5 : q ≤ 0 := by
      rcases Int.lt_or_le 0 q with h6 | h6
      · have h7 : p * 1 ≤ p * q := Int.mul_le_mul_of_nonneg_left (by omega) (by omega)
        omega
      · exact h6
    have h6 : x ≤ q := by
      rcases Int.lt_or_le q x with h7 | h7
      · have h8 : (p - 1) * 1 ≤ (p - 1) * (-q) := Int.mul_le_mul_of_nonneg_left (by omega) (by omega)
        have h9 : (p - 1) * (-q) = q - p * q := by rw [Int.sub_mul, Int.mul_neg]; omega
        omega
      · exact h7
    omega

theorem binI_inR (op : BinOp) (k : IntKind) {x : Int} (y : Int) (h : inR k x = true) : inR k (binI op k x y) = true := by
  have h0 : inR k 0 = true := by cases k <;> decide
  cases op <;> simp only [binI] <;> first | exact wrap_inR _ _ | exact tmod_inR _ _ h | exact fdiv_inR _ _ h | exact h0

def dvl (bs : List Ent) (ρ : Env) : List AV → Option (List Value)
  | [] => some []
  | a :: l => (dv bs ρ a).bind fun x => (dvl bs ρ l).map fun xs => x :: xs

theorem dvs_ofList (l : List AV) : dvs bs ρ (ofList l) = dvl bs ρ l := by
  induction l with
  | nil => rfl
  | cons a l ih => simp only [ofList, dvs, dvl, ih]
theorem dvl_members : ∀ (a : AV) {vs : List Value}, dvs bs ρ a = some vs → dvl bs ρ a.members = some vs
  | .cons a b, vs, h => by
    simp only [dvs, Option.bind_eq_some_iff, Option.map_eq_some_iff] at h
    obtain ⟨x, hx, xs, hxs, rfl⟩ := h
    simp only [AV.members, dvl, hx, dvl_members b hxs, Option.bind_some, Option.map_some]
  | .nil, vs, h => h
  | .int _ _, _, h | .bool _, _, h | .str _, _, h | .ptr _ _, _, h | .sptr _ _ _ _, _, h | .nilptr, _, h | .gptr _, _, h | .slice _ _ _ _, _, h | .arg _, _, h | .row _ _ _ _, _, h | .nilslice, _, h | .bstr _, _, h
  | .fn _ _, _, h | .fnx _ _, _, h | .nilFunc, _, h | .iface _ _, _, h | .nilIface, _, h | .agg _, _, h | .tuple _, _, h => by simp [dvs] at h

theorem dvl_length {l : List AV} {vs : List Value} (h : dvl bs ρ l = some vs) : vs.length = l.length := by
  induction l generalizing vs with
  | nil => cases h; rfl
  | cons a l ih =>
    simp only [dvl, Option.bind_eq_some_iff, Option.map_eq_some_iff] at h
    obtain ⟨x, hx, xs, hxs, rfl⟩ := h
    simp [ih hxs]
theorem dvl_get {l : List AV} {vs : List Value} (h : dvl bs ρ l = some vs) {i : Nat} {a : AV} (ha : l[i]? = some a) : ∃ v, vs[i]? = some v ∧ dv bs ρ a = some v := by
  induction l generalizing vs i with
  | nil => simp at ha
  | cons b l ih =>
    simp only [dvl, Option.bind_eq_some_iff, Option.map_eq_some_iff] at h
    obtain ⟨x, hx, xs, hxs, rfl⟩ := h
    cases i with
    | zero => simp at ha; subst ha; exact ⟨x, rfl, hx⟩
    | succ i => exact ih hxs (by simpa using ha)
theorem dvl_of_get {l : List AV} {vs : List Value} (hl : vs.length = l.length) (h : ∀ (i : Nat) a, l[i]? = some a → dv bs ρ a = vs[i]?) : dvl bs ρ l = some vs := by
  induction l generalizing vs with
  | nil => cases vs <;> simp_all [dvl]
  | cons a l ih =>
    cases vs with
    | nil => simp at hl
    | cons v vs =>
      have h0 := h 0 a rfl
      simp only [List.getElem?_cons_zero] at h0
      have h1 := ih (vs := vs) (by simpa using hl) (fun i b hb => by simpa using h (i + 1) b (by simpa using hb))
      simp [dvl, h0, h1]
theorem dvl_append {l m : List AV} {vs us : List Value} (h : dvl bs ρ l = some vs) (h' : dvl bs ρ m = some us) : dvl bs ρ (l ++ m) = some (vs ++ us) := by
  induction l generalizing vs with
  | nil => cases h; exact h'
  | cons a l ih =>
    simp only [dvl, Option.bind_eq_some_iff, Option.map_eq_some_iff] at h
    obtain ⟨x, hx, xs, hxs, rfl⟩ := h
    simp [dvl, hx, ih hxs]
theorem dvl_take {l : List AV} {vs : List Value} (h : dvl bs ρ l = some vs) (n : Nat) : dvl bs ρ (l.take n) = some (vs.take n) := by
  induction l generalizing vs n with
  | nil => cases h; simp [dvl]
  | cons a l ih =>
    simp only [dvl, Option.bind_eq_some_iff, Option.map_eq_some_iff] at h
    obtain ⟨x, hx, xs, hxs, rfl⟩ := h
    cases n with
    | zero => simp [dvl]
    | succ n => simp [dvl, hx, ih hxs]
theorem dvl_drop {l : List AV} {vs : List Value} (h : dvl bs ρ l = some vs) (n : Nat) : dvl bs ρ (l.drop n) = some (vs.drop n) := by
  induction l generalizing vs n with
  | nil => cases h; simp [dvl]
  | cons a l ih =>
    cases n with
    | zero => simpa using h
    | succ n =>
      simp only [dvl, Option.bind_eq_some_iff, Option.map_eq_some_iff] at h
      obtain ⟨x, hx, xs, hxs, rfl⟩ := h
      simpa using ih hxs n

theorem ofInts_sound : ∀ {l : List Value} {a : AV}, ofInts l = some a → dvs bs ρ a = some l
  | [], a, h => by cases h; rfl
  | v :: l, a, h => by
    unfold ofInts at h
    split at h <;> first | (simp at h; done) | skip
    all_goals (rename_i heq; first | (cases heq; done) | skip)
    all_goals (
      simp only [List.cons.injEq] at heq
      obtain ⟨rfl, rfl⟩ := heq)
    · split at h
      · rename_i hr
        simp only [Option.map_eq_some_iff] at h
        obtain ⟨b, hb, rfl⟩ := h
        simp [dvs, dv_int_mk (e := .lit _) hr, ofInts_sound hb]
      · cases h
    all_goals (
      simp only [Option.map_eq_some_iff] at h
      obtain ⟨b, hb, rfl⟩ := h
      simp [dvs, dv, ofInts_sound hb, evB_lit_ofB])

theorem ofV_sound {v : Value} {a : AV} (h : ofV v = some a) : dv bs ρ a = some v := by
  unfold ofV at h
  split at h
  · split at h
    · rename_i hr; cases h; exact dv_int_mk (e := .lit _) hr
    · cases h
  all_goals first
    | (cases h; done)
    | (cases h; simp [dv, evB_lit_ofB]; done)
    | (simp only [Option.map_eq_some_iff] at h
       obtain ⟨b, hb, rfl⟩ := h
       simp [dv, ofInts_sound hb])

theorem dv_cells {a : AV} {v : Value} (h : dv bs ρ a = some v) : dvl bs ρ a.cells = some v.cells.toList := by
  cases a
  case agg l =>
    simp only [dv, Option.map_eq_some_iff] at h
    obtain ⟨vs, hvs, rfl⟩ := h
    simpa [AV.cells, Value.cells] using dvl_members l hvs
  all_goals first
    | (cases h; done)
    | skip
  all_goals (
    have hv : v.cells = #[v] := by
      first
        | (obtain ⟨rfl, _⟩ := dv_int h; rfl)
        | (simp only [dv] at h; split at h <;> cases h; rfl)
        | (cases h; rfl)
        | (simp only [dv, Option.map_eq_some_iff] at h
           obtain ⟨x, _, rfl⟩ := h
           rfl)
    simp [AV.cells, dvl, h, hv])

/-! ### memory -/
def ORel (bs : List Ent) (ρ : Env) (w : World) (b : Ent) : AObj → Prop
  | .cells c ty _ grow => ∃ vs tail, dvl bs ρ c = some vs ∧ w.heap[b.blk]? = some (.cells (vs ++ tail).toArray ty (0, 0)) ∧
      (∀ s, grow = some s → (vs ++ tail).length = b.cap * s ∧ b.cap ≤ maxLen) ∧ b.base = 0
  | .dead => True
  | .sym n cap row ty => b.len = (den ρ n).toNat ∧ b.cap = (den ρ cap).toNat ∧ 0 ≤ den ρ n ∧ den ρ n ≤ den ρ cap ∧ den ρ cap ≤ 9223372036854775807 ∧
      (0 < den ρ cap → b.addr = some ⟨b.blk, b.base, none⟩ ∧ b.blk < w.heap.size ∧
        ∀ (i j : Nat) p, i < (den ρ cap).toNat → row[j]? = some p → w.cell? ⟨b.blk, b.base + (i * row.length + j), none⟩ = some (.int p.1 (ρ.f p.2 [(i : Int)])) ∧ inR p.1 (ρ.f p.2 [(i : Int)]) = true)
def MRel (bs : List Ent) (ρ : Env) (mem : List AObj) (w : World) : Prop :=
  ∀ (i : Nat) o, mem[i]? = some o → ∃ b, bs[i]? = some b ∧ ORel bs ρ w b o

section
variable {P : Program} {w : World}

theorem run_sizeA {t : TypeId} {n : Nat} (h : sizeA P t = some n) : (sizeOf t).run P w = .ok n w := by
  simp only [sizeA, Option.map_eq_some_iff] at h
  obtain ⟨i, hi, rfl⟩ := h
  simp [sizeOf, typeInfo, hi]

theorem partA_sound {t : TypeId} {cs : List AV} {off : Nat} {a : AV} {vs : List Value} (hc : dvl bs ρ cs = some vs) (h : partA P t cs off = some a) :
    ∃ v, dv bs ρ a = some v ∧ (part t vs.toArray off).run P w = .ok v w := by
  have hlen := dvl_length hc
  unfold partA at h
  cases hu : P.underlying t with
  | none => rw [hu] at h; cases hi : P.info? t <;> rw [hi] at h <;> simp at h
  | some d =>
    rw [hu] at h
    have agg : (∀ i, P.info? t = some i → off + i.size ≤ cs.length → a = .agg (ofList ((cs.drop off).take i.size)) → (isAgg t).run P w = .ok true w →
        ∃ v, dv bs ρ a = some v ∧ (part t vs.toArray off).run P w = .ok v w) := by
      rintro i hi hle rfl hagg
      refine ⟨.agg (vs.toArray.extract off (off + i.size)), ?_, ?_⟩
      · simp only [dv, dvs_ofList, dvl_take (dvl_drop hc off) i.size, Option.map_some]
        congr 2
        apply Array.ext'
        simp
      · simp [part, hagg, sizeOf, typeInfo, hi]
    have one : (isAgg t).run P w = .ok false w → cs[off]? = some a → ∃ v, dv bs ρ a = some v ∧ (part t vs.toArray off).run P w = .ok v w := by
      intro hagg ha
      obtain ⟨v, hv, hd⟩ := dvl_get hc ha
      exact ⟨v, hd, by simp [part, hagg, hv]⟩
    cases d
    case struct fs =>
      cases hi : P.info? t with
      | none => rw [hi] at h; simp at h
      | some i =>
        rw [hi] at h
        simp only at h
        split at h
        · exact agg i hi ‹_› (by simpa using h.symm) (by simp [isAgg, run_underlying hu])
        · simp at h
    case array n e =>
      cases hi : P.info? t with
      | none => rw [hi] at h; simp at h
      | some i =>
        rw [hi] at h
        simp only at h
        split at h
        · exact agg i hi ‹_› (by simpa using h.symm) (by simp [isAgg, run_underlying hu])
        · simp at h
    all_goals exact one (by simp [isAgg, run_underlying hu]) (by cases hi : P.info? t <;> (rw [hi] at h; simpa using h))

end
end Go.SX
