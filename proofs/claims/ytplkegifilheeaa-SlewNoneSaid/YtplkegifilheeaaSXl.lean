/- Symbolic execution of the model's code, part 12: from a tree to a call. -/
import Derived.Test.YtplkegifilheeaaSXk
import GoSem.ClaimData
namespace Go.SX
set_option linter.unusedSimpArgs false
set_option linter.unusedVariables false
variable {P : Program} {S : Nat → Prop} {w0 w : World} {bs : List Ent} {ρ : Env} {I : Nat → Env → Prop} {L : Env → AV → List AObj → Prop} {cfg : Cfg} {F : Nat → List Int → Int}

/-- The tree of a call: of the memory behind it the first 'keep' blocks are told. -/
def callT (P : Program) (cfg : Cfg) (fuel keep f : Nat) (args : List AV) (mem : List AObj) (pc : List (SE × Bool)) : Tree :=
  match P.funcs[f]? with
  | none => .fail 100
  | some fn => match fn.body with
    | none => .fail 101
    | some c => run P cfg fuel (some []) (.code c) { slots := args.map some ++ List.replicate (fn.ntmps - args.length) (some (.tuple .nil)), mem, pc } fun ex st =>
      match ex with
      | .exit _ => .fail 102
      | _ => match resultA P fn st with
        | some v => .leaf v (st.mem.take keep)
        | none => .fail 103

theorem calls_run (hcfg : CfgOk P cfg F) {fuel keep f : Nat} {args : List AV} {mem : List AObj} {pc : List (SE × Bool)} {vs : List Value} (hT : (callT P cfg fuel keep f args mem pc).holds I L ρ) (hρ : ρ.f = F)
    (hpc : ∀ p ∈ pc, evB ρ p.1 = p.2) (hvs : dvl bs ρ args = some vs) (hm : RelM bs ρ S w0 mem w) {R : Ending → World → Prop}
    (hL : ∀ (ρ' : Env) (bs' : List Ent) (v : AV) (m mem' : List AObj) (w' : World) (z : Value), ρ'.f = F → L ρ' v m → m = mem'.take keep → dv bs' ρ' v = some z → RelM bs' ρ' S w0 mem' w' → R (.returned z) w') :
    Calls P f vs.toArray w R := by
  unfold callT at hT
  split at hT
  · exact hT.elim
  · rename_i fn hfn
    split at hT
    · exact hT.elim
    · rename_i c hc
      have hlen := dvl_length hvs
      refine (calls_of_wp (R := fun e w' => ∃ z, e = .returned z ∧ R e w') hfn hc ?_).mono fun e w' ⟨z, he, h⟩ => h
      refine run_sound (S := S) (w0 := w0) hcfg fuel (some []) (.code c) _ _ bs ρ _ w _ (fun _ => True) (fun _ => True) ?_ hρ hT ?_ ?_ (fun _ _ _ _ _ _ _ h => by cases h)
      · refine ⟨by simp [hlen], ?_, rfl, hm, hpc⟩
        have := slots_map args vs (fn.ntmps - args.length) hvs
        simpa [hlen] using this
      · intro ρ' ex bs' st' a' w' hx hf hR' hT'
        have fin : (match resultA P fn st' with | some v => Tree.leaf v (st'.mem.take keep) | none => .fail 103).holds I L ρ' →
            a'.defers = [] ∧ ∃ v, (results fn a'.tmps).run P w' = .ok v w' ∧ ∃ z, Ending.returned v = .returned z ∧ R (.returned v) w' := by
          intro hT'
          split at hT'
          · rename_i v hv
            obtain ⟨z, hz, hrun⟩ := resultA_sound (P := P) hR' hv
            exact ⟨hR'.defers, z, hrun, z, rfl, hL ρ' bs' v _ st'.mem w' z hf hT' rfl hz hR'.mem⟩
          · exact hT'.elim
        cases ex with
        | normal => exact fin hT'
        | ret => exact fin hT'
        | exit id => exact hT'.elim
      · rintro ch a' w' ⟨_, z, h, _⟩
        cases h

/-- What a law asks of its end. -/
def saysTrue (ρ : Env) (v : AV) (_ : List AObj) : Prop :=
  match v with
  | .bool e => evB ρ e = true
  | _ => False

/-- A law: its tree's ends all say true; no block of the start has turned. -/
theorem law_run (hcfg : CfgOk P cfg F) {fuel f : Nat} {args : List AV} {mem : List AObj} {pc : List (SE × Bool)} {vs : List Value} {W : World} (hT : (callT P cfg fuel 0 f args mem pc).holds I saysTrue ρ) (hρ : ρ.f = F)
    (hpc : ∀ p ∈ pc, evB ρ p.1 = p.2) (hvs : dvl bs ρ args = some vs) (hm : RelM bs ρ (· < W.heap.size) W mem W) :
    Calls P f vs.toArray W fun e w' => e = .returned (.bool true) ∧ RowKit.Below W.heap.size W w' := by
  refine calls_run hcfg hT hρ hpc hvs hm ?_
  rintro ρ' bs' v m mem' w' z hf hv _ hz hR
  unfold saysTrue at hv
  split at hv
  · cases hz
    rw [hv]
    exact ⟨rfl, hR.keep.os, hR.keep.tape, hR.keep.output, hR.keep.size, fun k hk => hR.keep.block k hk⟩
  · exact hv.elim

/-- The arguments' memory at a law's start: nothing of it is the call's own. -/
theorem RelM.foreign {mem : List AObj} {W : World} (hl : bs.length = mem.length) (hm : MRel bs ρ mem W) (hno : mem.all (fun o => !o.mine) = true) : RelM bs ρ (· < W.heap.size) W mem W := by
  have no : ∀ (i : Nat) o, mem[i]? = some o → o.mine = true → False := fun i o ho hmi => by
    have := List.all_eq_true.1 hno o (List.mem_of_getElem? ho)
    rw [hmi] at this
    cases this
  exact ⟨hl, hm, fun i o b ho hmi => (no i o ho hmi).elim, fun i j o o' b b' _ ho _ hmi => (no i o ho hmi).elim, ⟨rfl, rfl, rfl, Nat.le_refl _, fun _ _ => rfl, fun _ h => h⟩⟩

/-- What is known of an argument that is a row of numbers. -/
def IsRow (k : IntKind) (w : World) (a : Option Addr) (len cap : Nat) (zs : List Int) : Prop :=
  (a = none ∧ len = 0 ∧ cap = 0 ∧ zs = []) ∨
  ∃ x, a = some x ∧ len ≤ cap ∧ cap ≤ maxLen ∧ zs.length = cap ∧ (∀ i, i < zs.length → w.cell? (x.add i) = some (.int k (zs.getD i 0))) ∧ ∀ n ∈ zs, (Lit.int k n).wf = true
def entOf (a : Option Addr) (len cap : Nat) : Ent := { blk := (a.map (·.block)).getD 0, cap := cap, base := (a.map (·.off)).getD 0, addr := a, len := len }
theorem wf_inR {k : IntKind} {n : Int} (h : (Lit.int k n).wf = true) : inR k n = true := by
  unfold inR
  simpa [Lit.wf] using h
theorem orel_row {k : IntKind} {W : World} {a : Option Addr} {len cap : Nat} {zs : List Int} (h : IsRow k W a len cap zs) {n c : SE} {j : Nat} {ty : TypeId} (hn : den ρ n = len) (hc : den ρ c = cap)
    (hf : ∀ i : Nat, i < zs.length → ρ.f j [(i : Int)] = zs.getD i 0) : ORel bs ρ W (entOf a len cap) (.sym n c [(k, j)] ty) := by
  have e1 : len = (den ρ n).toNat := by omega
  have e2 : cap = (den ρ c).toNat := by omega
  rcases h with ⟨rfl, rfl, rfl, rfl⟩ | ⟨x, rfl, hle, hmax, hz, hcell, hwf⟩
  · exact ⟨e1, e2, by omega, by omega, by omega, fun h => by omega⟩
  · refine ⟨e1, e2, by omega, by omega, by unfold maxLen at hmax; omega, fun h => ?_⟩
    have h0 := hcell 0 (by omega)
    have hx : x.add 0 = x := by simp [Addr.add]
    rw [hx] at h0
    have hspot : x.spot = none := by
      unfold World.cell? at h0
      split at h0
      · split at h0
        · cases h0
        · rename_i hs; simpa using hs
      · cases h0
    obtain ⟨b, o, s⟩ := x
    simp only at hspot
    subst hspot
    refine ⟨rfl, World.block_lt_of_cell? W _ h0, fun i q p hi hp => ?_⟩
    have hq : q = 0 := by
      have := (List.getElem?_eq_some_iff.1 hp).1
      simpa using this
    subst hq
    cases hp
    have h1 := hcell i (by omega)
    have e3 : (⟨b, o, none⟩ : Addr).add i = ⟨b, o + i, none⟩ := add_at b o i
    rw [e3] at h1
    rw [hf i (by omega)]
    refine ⟨by simpa [entOf] using h1, wf_inR (hwf _ ?_)⟩
    have hlt : i < zs.length := by omega
    rw [List.getD_eq_getElem?_getD, List.getElem?_eq_getElem hlt]
    exact List.getElem_mem hlt

/-- The letters of a law: its numbers, and its arguments' rows. -/
def mkEnv (F : Nat → List Int → Int) (vals : List Int) (rows : List (List Int)) : Env :=
  { v := fun i => vals.getD i 0, f := fun j l => if j < rows.length then (rows.getD j []).getD (l.headD 0).toNat 0 else F j l }
theorem mkEnv_f {F : Nat → List Int → Int} {vals : List Int} {rows : List (List Int)} {j : Nat} (h : rows.length ≤ j) : (mkEnv F vals rows).f j = F j := by
  funext l
  show (if j < rows.length then _ else F j l) = _
  rw [if_neg (by omega)]
theorem dvl_mk {a : AV} {l : List AV} {v : Value} {vs : List Value} (h : dv bs ρ a = some v) (h' : dvl bs ρ l = some vs) : dvl bs ρ (a :: l) = some (v :: vs) := by
  simp only [dvl, h, h', Option.bind_some, Option.map_some]
theorem dvl_none : dvl bs ρ [] = some [] := rfl
theorem dv_agg_mk {l : List AV} {vs : List Value} (h : dvl bs ρ l = some vs) : dv bs ρ (.agg (ofList l)) = some (.agg vs.toArray) := by
  simp only [dv, dvs_ofList, h, Option.map_some]
theorem mrel_nil {W : World} : MRel bs ρ [] W := fun i o h => by simp at h
theorem mrel_one {W : World} {b : Ent} {o : AObj} (h : ORel [b] ρ W b o) : MRel [b] ρ [o] W := fun i p hp => by
  cases i with
  | zero => cases hp; exact ⟨b, rfl, h⟩
  | succ i => simp at hp
theorem mrel_two {W : World} {b c : Ent} {o q : AObj} (h : ORel [b, c] ρ W b o) (h' : ORel [b, c] ρ W c q) : MRel [b, c] ρ [o, q] W := fun i p hp => by
  cases i with
  | zero => cases hp; exact ⟨b, rfl, h⟩
  | succ i => cases i with
    | zero => cases hp; exact ⟨c, rfl, h'⟩
    | succ i => simp at hp
theorem mrel_three {W : World} {b c d : Ent} {o q r : AObj} (h : ORel [b, c, d] ρ W b o) (h' : ORel [b, c, d] ρ W c q) (h'' : ORel [b, c, d] ρ W d r) : MRel [b, c, d] ρ [o, q, r] W := fun i p hp => by
  cases i with
  | zero => cases hp; exact ⟨b, rfl, h⟩
  | succ i => cases i with
    | zero => cases hp; exact ⟨c, rfl, h'⟩
    | succ i => cases i with
      | zero => cases hp; exact ⟨d, rfl, h''⟩
      | succ i => simp at hp
theorem row_inR {k : IntKind} {W : World} {a : Option Addr} {len cap : Nat} {zs : List Int} (h : IsRow k W a len cap zs) (i : Int) (h0 : 0 ≤ i) (h1 : i < len) : inR k (zs.getD i.toNat 0) = true := by
  rcases h with ⟨rfl, rfl, rfl, rfl⟩ | ⟨x, rfl, hle, hmax, hz, hcell, hwf⟩
  · omega
  · have hlt : i.toNat < zs.length := by omega
    refine wf_inR (hwf _ ?_)
    rw [List.getD_eq_getElem?_getD, List.getElem?_eq_getElem hlt]
    exact List.getElem_mem hlt
theorem row_le {k : IntKind} {W : World} {a : Option Addr} {len cap : Nat} {zs : List Int} (h : IsRow k W a len cap zs) : (len : Int) ≤ cap := by
  rcases h with ⟨rfl, rfl, rfl, rfl⟩ | ⟨x, rfl, hle, _⟩ <;> omega
/-- Functions that may be entered. -/
def okB (P : Program) (l : List FuncId) : Bool := l.all fun f => match P.funcs[f]? with
  | some fn => (fn.name == "runtime.NumGoroutine") == false && fn.body.isSome
  | none => false
theorem okB_spec {P : Program} {l : List FuncId} (h : okB P l = true) : ∀ f ∈ l, ∃ fn, P.funcs[f]? = some fn ∧ (fn.name == "runtime.NumGoroutine") = false ∧ fn.body.isSome = true := by
  intro f hf
  have := List.all_eq_true.1 h f hf
  split at this
  · rename_i fn hfn
    simp only [Bool.and_eq_true, beq_iff_eq] at this
    exact ⟨fn, hfn, this.1, this.2⟩
  · cases this

theorem RelM.nil (W : World) (ρ : Env) : RelM [] ρ (· < W.heap.size) W [] W :=
  ⟨rfl, fun i o h => by simp at h, fun i o b h => by simp at h, fun i j o o' b b' _ h => by simp at h, ⟨rfl, rfl, rfl, Nat.le_refl _, fun _ _ => rfl, fun _ h => h⟩⟩

end Go.SX
