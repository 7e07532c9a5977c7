/- Symbolic execution of the model's code, 3 of 3 (the parts of wip/sx joined by wip/merge.py). No conditions. -/
import Derived.Test.YtplkegifilheeaaSX2
import GoSem.ClaimData
/- Symbolic execution of the model's code, part 12: from a tree to a call. -/
namespace Go.SX
set_option linter.unusedSimpArgs false
set_option linter.unusedVariables false
variable {P : Program} {S : Nat → Prop} {w0 w : World} {bs : List Ent} {ρ : Env} {I : Nat → Env → Prop} {L : Env → AV → List AObj → Prop} {cfg : Cfg} {F : Nat → List Int → Int} {N : (Nat → Prop) → World → Prop}

/-- The tree of a call: of the memory behind it the first 'keep' blocks are told. -/
def callT (P : Program) (cfg : Cfg) (fuel keep f : Nat) (args : List AV) (mem : List AObj) (pc : List (SE × Bool)) : Tree :=
  match P.funcs[f]? with
  | none => .fail 100
  | some fn => match fn.body with
    | none => .fail 101
    | some c => run P cfg fuel (some []) (.code c) { slots := args.map some ++ List.replicate (fn.ntmps - args.length) (some (.tuple .nil)), mem, pc } fun ex st =>
      match ex with
      | .exit _ => .fail 102
      | _ => match resultA P fn st with
        | some v => .leaf v (st.mem.take keep)
        | none => .fail 103

theorem calls_run (hcfg : CfgOk P cfg F N) (hN : N S w0) {fuel keep f : Nat} {args : List AV} {mem : List AObj} {pc : List (SE × Bool)} {vs : List Value} (hT : (callT P cfg fuel keep f args mem pc).holds I L ρ) (hρ : ρ.f = F)
    (hpc : ∀ p ∈ pc, evB ρ p.1 = p.2) (hvs : dvl bs ρ args = some vs) (hm : RelM bs ρ S w0 mem w) {R : Ending → World → Prop}
    (hL : ∀ (ρ' : Env) (bs' : List Ent) (v : AV) (m mem' : List AObj) (w' : World) (z : Value), ρ'.f = F → L ρ' v m → m = mem'.take keep → dv bs' ρ' v = some z → RelM bs' ρ' S w0 mem' w' → R (.returned z) w') :
    Calls P f vs.toArray w R := by
  unfold callT at hT
  split at hT
  · exact hT.elim
  · rename_i fn hfn
    split at hT
    · exact hT.elim
    · rename_i c hc
      have hlen := dvl_length hvs
      refine (calls_of_wp (R := fun e w' => ∃ z, e = .returned z ∧ R e w') hfn hc ?_).mono fun e w' ⟨z, he, h⟩ => h
      refine run_sound (S := S) (w0 := w0) hcfg hN fuel (some []) (.code c) _ _ bs ρ _ w _ (fun _ => True) (fun _ => True) ?_ hρ hT ?_ ?_ (fun _ _ _ _ _ _ _ h => by cases h)
      · refine ⟨by simp [hlen], ?_, rfl, hm, hpc⟩
        have := slots_map args vs (fn.ntmps - args.length) hvs
        simpa [hlen] using this
      · intro ρ' ex bs' st' a' w' hx hf hR' hT'
        have fin : (match resultA P fn st' with | some v => Tree.leaf v (st'.mem.take keep) | none => .fail 103).holds I L ρ' →
            a'.defers = [] ∧ ∃ v, (results fn a'.tmps).run P w' = .ok v w' ∧ ∃ z, Ending.returned v = .returned z ∧ R (.returned v) w' := by
          intro hT'
          split at hT'
          · rename_i v hv
            obtain ⟨z, hz, hrun⟩ := resultA_sound (P := P) hR' hv
            exact ⟨hR'.defers, z, hrun, z, rfl, hL ρ' bs' v _ st'.mem w' z hf hT' rfl hz hR'.mem⟩
          · exact hT'.elim
        cases ex with
        | normal => exact fin hT'
        | ret => exact fin hT'
        | exit id => exact hT'.elim
      · rintro ch a' w' ⟨_, z, h, _⟩
        cases h

/-- What a law asks of its end. -/
def saysTrue (ρ : Env) (v : AV) (_ : List AObj) : Prop :=
  match v with
  | .bool e => evB ρ e = true
  | _ => False

/-- A law: its tree's ends all say true; no block of the start has turned. -/
theorem law_run (hcfg : CfgOk P cfg F N) {fuel f : Nat} {args : List AV} {mem : List AObj} {pc : List (SE × Bool)} {vs : List Value} {W : World} (hN : N (· < W.heap.size) W) (hT : (callT P cfg fuel 0 f args mem pc).holds I saysTrue ρ) (hρ : ρ.f = F)
    (hpc : ∀ p ∈ pc, evB ρ p.1 = p.2) (hvs : dvl bs ρ args = some vs) (hm : RelM bs ρ (· < W.heap.size) W mem W) :
    Calls P f vs.toArray W fun e w' => e = .returned (.bool true) ∧ RowKit.Below W.heap.size W w' := by
  refine calls_run hcfg hN hT hρ hpc hvs hm ?_
  rintro ρ' bs' v m mem' w' z hf hv _ hz hR
  unfold saysTrue at hv
  split at hv
  · cases hz
    rw [hv]
    exact ⟨rfl, hR.keep.os, hR.keep.tape, hR.keep.output, hR.keep.size, fun k hk => hR.keep.block k hk⟩
  · exact hv.elim

/-- The arguments' memory at a law's start: nothing of it is the call's own. -/
theorem RelM.foreign {mem : List AObj} {W : World} (hl : bs.length = mem.length) (hm : MRel bs ρ mem W) (hno : mem.all (fun o => !o.mine) = true) : RelM bs ρ (· < W.heap.size) W mem W := by
  have no : ∀ (i : Nat) o, mem[i]? = some o → o.mine = true → False := fun i o ho hmi => by
    have := List.all_eq_true.1 hno o (List.mem_of_getElem? ho)
    rw [hmi] at this
    cases this
  exact ⟨hl, hm, fun i o b ho hmi => (no i o ho hmi).elim, fun i j o o' b b' _ ho _ hmi => (no i o ho hmi).elim, ⟨rfl, rfl, rfl, Nat.le_refl _, fun _ _ => rfl, fun _ h => h⟩⟩

/-- What is known of an argument that is a row of numbers. -/
def IsRow (k : IntKind) (w : World) (a : Option Addr) (len cap : Nat) (zs : List Int) : Prop :=
  (a = none ∧ len = 0 ∧ cap = 0 ∧ zs = []) ∨
  ∃ x, a = some x ∧ len ≤ cap ∧ cap ≤ maxLen ∧ zs.length = cap ∧ (∀ i, i < zs.length → w.cell? (x.add i) = some (.int k (zs.getD i 0))) ∧ ∀ n ∈ zs, (Lit.int k n).wf = true
def entOf (a : Option Addr) (len cap : Nat) : Ent := { blk := (a.map (·.block)).getD 0, cap := cap, base := (a.map (·.off)).getD 0, addr := a, len := len }
theorem wf_inR {k : IntKind} {n : Int} (h : (Lit.int k n).wf = true) : inR k n = true := by
  unfold inR
  simpa [Lit.wf] using h
theorem orel_row {k : IntKind} {W : World} {a : Option Addr} {len cap : Nat} {zs : List Int} (h : IsRow k W a len cap zs) {n c : SE} {j : Nat} {ty : TypeId} (hn : den ρ n = len) (hc : den ρ c = cap)
    (hf : ∀ i : Nat, i < zs.length → ρ.f j [(i : Int)] = zs.getD i 0) : ORel bs ρ W (entOf a len cap) (.sym n c [.int k j] ty) := by
  have e1 : len = (den ρ n).toNat := by omega
  have e2 : cap = (den ρ c).toNat := by omega
  rcases h with ⟨rfl, rfl, rfl, rfl⟩ | ⟨x, rfl, hle, hmax, hz, hcell, hwf⟩
  · exact ⟨e1, e2, by omega, by omega, by omega, fun h => by omega⟩
  · refine ⟨e1, e2, by omega, by omega, by unfold maxLen at hmax; omega, fun h => ?_⟩
    have h0 := hcell 0 (by omega)
    have hx : x.add 0 = x := by simp [Addr.add]
    rw [hx] at h0
    have hspot : x.spot = none := by
      unfold World.cell? at h0
      split at h0
      · split at h0
        · cases h0
        · rename_i hs; simpa using hs
      · cases h0
    obtain ⟨b, o, s⟩ := x
    simp only at hspot
    subst hspot
    refine ⟨rfl, World.block_lt_of_cell? W _ h0, fun i q p hi hp => ?_⟩
    have hq : q = 0 := by
      have := (List.getElem?_eq_some_iff.1 hp).1
      simpa using this
    subst hq
    cases hp
    have h1 := hcell i (by omega)
    have e3 : (⟨b, o, none⟩ : Addr).add i = ⟨b, o + i, none⟩ := add_at b o i
    rw [e3] at h1
    show _ = some (Value.int k (ρ.f j [(i : Int)])) ∧ inR k (ρ.f j [(i : Int)]) = true
    rw [hf i (by omega)]
    refine ⟨by simpa [entOf] using h1, wf_inR (hwf _ ?_)⟩
    have hlt : i < zs.length := by omega
    rw [List.getD_eq_getElem?_getD, List.getElem?_eq_getElem hlt]
    exact List.getElem_mem hlt

/-- The letters of a law: its numbers, and its arguments' rows. -/
def mkEnv (F : Nat → List Int → Int) (vals : List Int) (rows : List (List Int)) : Env :=
  { v := fun i => vals.getD i 0, f := fun j l => if j < rows.length then (rows.getD j []).getD (l.headD 0).toNat 0 else F j l }
theorem mkEnv_f {F : Nat → List Int → Int} {vals : List Int} {rows : List (List Int)} {j : Nat} (h : rows.length ≤ j) : (mkEnv F vals rows).f j = F j := by
  funext l
  show (if j < rows.length then _ else F j l) = _
  rw [if_neg (by omega)]
theorem dvl_mk {a : AV} {l : List AV} {v : Value} {vs : List Value} (h : dv bs ρ a = some v) (h' : dvl bs ρ l = some vs) : dvl bs ρ (a :: l) = some (v :: vs) := by
  simp only [dvl, h, h', Option.bind_some, Option.map_some]
theorem dvl_none : dvl bs ρ [] = some [] := rfl
theorem dv_agg_mk {l : List AV} {vs : List Value} (h : dvl bs ρ l = some vs) : dv bs ρ (.agg (ofList l)) = some (.agg vs.toArray) := by
  simp only [dv, dvs_ofList, h, Option.map_some]
theorem mrel_nil {W : World} : MRel bs ρ [] W := fun i o h => by simp at h
theorem mrel_one {W : World} {b : Ent} {o : AObj} (h : ORel [b] ρ W b o) : MRel [b] ρ [o] W := fun i p hp => by
  cases i with
  | zero => cases hp; exact ⟨b, rfl, h⟩
  | succ i => simp at hp
theorem mrel_two {W : World} {b c : Ent} {o q : AObj} (h : ORel [b, c] ρ W b o) (h' : ORel [b, c] ρ W c q) : MRel [b, c] ρ [o, q] W := fun i p hp => by
  cases i with
  | zero => cases hp; exact ⟨b, rfl, h⟩
  | succ i => cases i with
    | zero => cases hp; exact ⟨c, rfl, h'⟩
    | succ i => simp at hp
theorem mrel_three {W : World} {b c d : Ent} {o q r : AObj} (h : ORel [b, c, d] ρ W b o) (h' : ORel [b, c, d] ρ W c q) (h'' : ORel [b, c, d] ρ W d r) : MRel [b, c, d] ρ [o, q, r] W := fun i p hp => by
  cases i with
  | zero => cases hp; exact ⟨b, rfl, h⟩
  | succ i => cases i with
    | zero => cases hp; exact ⟨c, rfl, h'⟩
    | succ i => cases i with
      | zero => cases hp; exact ⟨d, rfl, h''⟩
      | succ i => simp at hp
theorem row_inR {k : IntKind} {W : World} {a : Option Addr} {len cap : Nat} {zs : List Int} (h : IsRow k W a len cap zs) (i : Int) (h0 : 0 ≤ i) (h1 : i < len) : inR k (zs.getD i.toNat 0) = true := by
  rcases h with ⟨rfl, rfl, rfl, rfl⟩ | ⟨x, rfl, hle, hmax, hz, hcell, hwf⟩
  · omega
  · have hlt : i.toNat < zs.length := by omega
    refine wf_inR (hwf _ ?_)
    rw [List.getD_eq_getElem?_getD, List.getElem?_eq_getElem hlt]
    exact List.getElem_mem hlt
theorem row_le {k : IntKind} {W : World} {a : Option Addr} {len cap : Nat} {zs : List Int} (h : IsRow k W a len cap zs) : (len : Int) ≤ cap := by
  rcases h with ⟨rfl, rfl, rfl, rfl⟩ | ⟨x, rfl, hle, _⟩ <;> omega
/-- Functions that may be entered. -/
def okB (P : Program) (l : List FuncId) : Bool := l.all fun f => match P.funcs[f]? with
  | some fn => (fn.name == "runtime.NumGoroutine") == false && fn.body.isSome
  | none => false
theorem okB_spec {P : Program} {l : List FuncId} (h : okB P l = true) : ∀ f ∈ l, ∃ fn, P.funcs[f]? = some fn ∧ (fn.name == "runtime.NumGoroutine") = false ∧ fn.body.isSome = true := by
  intro f hf
  have := List.all_eq_true.1 h f hf
  split at this
  · rename_i fn hfn
    simp only [Bool.and_eq_true, beq_iff_eq] at this
    exact ⟨fn, hfn, this.1, this.2⟩
  · cases this

theorem RelM.nil (W : World) (ρ : Env) : RelM [] ρ (· < W.heap.size) W [] W :=
  ⟨rfl, fun i o h => by simp at h, fun i o b h => by simp at h, fun i j o o' b b' _ h => by simp at h, ⟨rfl, rfl, rfl, Nat.le_refl _, fun _ _ => rfl, fun _ h => h⟩⟩

end Go.SX

/- Symbolic execution of the model's code, part 13: words for reading a tree. -/
namespace Go.SX
variable {ρ : Env}
theorem ev_lss (a b : SE) : (evB ρ (.cmp .lss a b) = true) = (den ρ a < den ρ b) := by
  rw [evB, den, ofB_bne]; exact propext ⟨fun h => of_decide_eq_true h, fun h => decide_eq_true h⟩
theorem ev_lss' (a b : SE) : (evB ρ (.cmp .lss a b) = false) = (den ρ b ≤ den ρ a) := by
  rw [evB, den, ofB_bne]; exact propext ⟨fun h => by have := of_decide_eq_false h; omega, fun h => decide_eq_false (by omega)⟩
theorem ev_leq (a b : SE) : (evB ρ (.cmp .leq a b) = true) = (den ρ a ≤ den ρ b) := by
  rw [evB, den, ofB_bne]; exact propext ⟨fun h => of_decide_eq_true h, fun h => decide_eq_true h⟩
theorem ev_leq' (a b : SE) : (evB ρ (.cmp .leq a b) = false) = (den ρ b < den ρ a) := by
  rw [evB, den, ofB_bne]; exact propext ⟨fun h => by have := of_decide_eq_false h; omega, fun h => decide_eq_false (by omega)⟩
theorem ev_eql (a b : SE) : (evB ρ (.cmp .eql a b) = true) = (den ρ a = den ρ b) := by
  rw [evB, den, ofB_bne]; simp [cmpI]
theorem ev_eql' (a b : SE) : (evB ρ (.cmp .eql a b) = false) = (den ρ a ≠ den ρ b) := by
  rw [evB, den, ofB_bne]; simp [cmpI]
theorem ev_neq (a b : SE) : (evB ρ (.cmp .neq a b) = true) = (den ρ a ≠ den ρ b) := by
  rw [evB, den, ofB_bne]; simp [cmpI]
theorem ev_neq' (a b : SE) : (evB ρ (.cmp .neq a b) = false) = (den ρ a = den ρ b) := by
  rw [evB, den, ofB_bne]; simp [cmpI]
theorem ev_not (a : SE) : (evB ρ (.not a) = true) = (evB ρ a = false) := by
  rw [evB, den, ofB_bne]; simp [evB]
theorem ev_not' (a : SE) : (evB ρ (.not a) = false) = (evB ρ a = true) := by
  rw [evB, den, ofB_bne]; simp [evB]
theorem ev_and (a b : SE) : (evB ρ (.and a b) = true) = (evB ρ a = true ∧ evB ρ b = true) := by
  rw [evB, den, ofB_bne]; simp [evB]
theorem ev_and' (a b : SE) : (evB ρ (.and a b) = false) = ¬(evB ρ a = true ∧ evB ρ b = true) := by
  rw [evB, den, ofB_bne]; simp [evB]
theorem ev_lit1 : (evB ρ (.lit 1) = true) = True := by simp [evB, den]
theorem ev_lit0 : (evB ρ (.lit 0) = true) = False := by simp [evB, den]
theorem ev_app (f : Nat) (a : SE) : (evB ρ (.app f a) = true) = (ρ.f f (dens ρ a) ≠ 0) := by
  rw [evB, den]; simp
theorem ev_app' (f : Nat) (a : SE) : (evB ρ (.app f a) = false) = (ρ.f f (dens ρ a) = 0) := by
  rw [evB, den]; simp

theorem says1 {m : List AObj} : saysTrue ρ (.bool (.lit 1)) m := by show evB ρ (.lit 1) = true; rw [ev_lit1]; trivial

theorem u8_parts : ∀ n : Fin 256, binI .shr .u8 (n.val : Int) 6 = binI .quo .u8 (n.val : Int) 64 ∧ binI .and .u8 (binI .shr .u8 (n.val : Int) 3) 7 = binI .rem .u8 (binI .quo .u8 (n.val : Int) 8) 8 ∧
    binI .and .u8 (n.val : Int) 7 = binI .rem .u8 (n.val : Int) 8 := by decide +kernel
theorem u8_part {c : Int} (h0 : 0 ≤ c) (h1 : c ≤ 255) : binI .shr .u8 c 6 = binI .quo .u8 c 64 ∧ binI .and .u8 (binI .shr .u8 c 3) 7 = binI .rem .u8 (binI .quo .u8 c 8) 8 ∧ binI .and .u8 c 7 = binI .rem .u8 c 8 := by
  have := u8_parts ⟨c.toNat, by omega⟩
  have e : ((⟨c.toNat, by omega⟩ : Fin 256).val : Int) = c := by show ((c.toNat : Nat) : Int) = c; omega
  rw [e] at this
  exact this
end Go.SX

/- Symbolic execution of the model's code, part 14: words laid as bytes and read again. Plain laws. -/
namespace Go.SX
theorem u64_inR {x : Int} (h : inR .u64 x = true) : 0 ≤ x ∧ x < 18446744073709551616 := by
  have := of_decide_eq_true h
  simp [IntKind.min, IntKind.max, IntKind.bits, IntKind.signed] at this
  omega
theorem u32_inR {x : Int} (h : inR .u32 x = true) : 0 ≤ x ∧ x < 4294967296 := by
  have := of_decide_eq_true h
  simp [IntKind.min, IntKind.max, IntKind.bits, IntKind.signed] at this
  omega
theorem i8_inR {x : Int} (h : inR .i8 x = true) : -128 ≤ x ∧ x ≤ 127 := by
  have := of_decide_eq_true h
  simp [IntKind.min, IntKind.max, IntKind.bits, IntKind.signed] at this
  omega
theorem i8_wrap (n : Int) : IntKind.i8.wrap n = (n + 128) % 256 - 128 := by
  simp only [IntKind.wrap, IntKind.bits, IntKind.signed]
  simp
  omega
theorem shr_u64 (x : Int) (k : Nat) (hk : k ≤ 64) : binI .shr .u64 x k = x / 2 ^ k := by
  show x.fdiv (2 ^ (min (k : Int).toNat 64)) = _
  rw [Int.toNat_natCast, Nat.min_eq_left hk, Int.fdiv_eq_ediv_of_nonneg _ (Int.le_of_lt (Int.pow_pos (by omega)))]
/-- One byte more. -/
theorem wstep (x m : Int) (hm : 0 < m) (h0 : 0 ≤ x) (h1 : x < 18446744073709551616) : binI .or .u64 (binI .shl .u64 (x / (m * 256)) 8) (IntKind.u64.wrap (IntKind.u8.wrap (x / m))) = x / m := by
  have h2 : 0 ≤ x / m := Int.ediv_nonneg h0 (by omega)
  have h3 : x / m ≤ x := Int.ediv_le_self _ h0
  have h4 : x / (m * 256) = x / m / 256 := (Int.ediv_ediv_of_nonneg (by omega)).symm
  rw [h4, u8_wrap, word_step _ (by omega) (by omega)]
  show IntKind.u64.wrap (IntKind.u64.wrap (256 * (x / m / 256)) + IntKind.u64.wrap (x / m % 256)) = x / m
  simp only [u64_wrap]
  omega
theorem wfirst (x m : Int) (hm : 0 < m) (h0 : 0 ≤ x) (h1 : x / m < 256) : binI .or .u64 0 (IntKind.u64.wrap (IntKind.u8.wrap (x / m))) = x / m := by
  have h2 : 0 ≤ x / m := Int.ediv_nonneg h0 (by omega)
  rw [u8_wrap, word_first (by omega) (by omega)]
  show IntKind.u64.wrap (0 + IntKind.u64.wrap (x / m % 256)) = x / m
  simp only [u64_wrap]
  omega
theorem word8 {x : Int} (h : 0 ≤ x ∧ x < 18446744073709551616) : binI .or .u64 (binI .shl .u64 (binI .or .u64 (binI .shl .u64 (binI .or .u64 (binI .shl .u64 (binI .or .u64 (binI .shl .u64 (binI .or .u64 (binI .shl .u64 (binI .or .u64 (binI .shl .u64 (binI .or .u64 (binI .shl .u64 (binI .or .u64 0
    (IntKind.u64.wrap (IntKind.u8.wrap (binI .shr .u64 x 56)))) 8) (IntKind.u64.wrap (IntKind.u8.wrap (binI .shr .u64 x 48)))) 8) (IntKind.u64.wrap (IntKind.u8.wrap (binI .shr .u64 x 40)))) 8) (IntKind.u64.wrap (IntKind.u8.wrap (binI .shr .u64 x 32)))) 8)
    (IntKind.u64.wrap (IntKind.u8.wrap (binI .shr .u64 x 24)))) 8) (IntKind.u64.wrap (IntKind.u8.wrap (binI .shr .u64 x 16)))) 8) (IntKind.u64.wrap (IntKind.u8.wrap (binI .shr .u64 x 8)))) 8) (IntKind.u64.wrap (IntKind.u8.wrap (binI .shr .u64 x 0))) = x := by
  obtain ⟨h0, h1⟩ := h
  have s := fun k hk => shr_u64 x k hk
  have s56 : binI .shr .u64 x 56 = x / 72057594037927936 := s 56 (by omega)
  have s48 : binI .shr .u64 x 48 = x / 281474976710656 := s 48 (by omega)
  have s40 : binI .shr .u64 x 40 = x / 1099511627776 := s 40 (by omega)
  have s32 : binI .shr .u64 x 32 = x / 4294967296 := s 32 (by omega)
  have s24 : binI .shr .u64 x 24 = x / 16777216 := s 24 (by omega)
  have s16 : binI .shr .u64 x 16 = x / 65536 := s 16 (by omega)
  have s8 : binI .shr .u64 x 8 = x / 256 := s 8 (by omega)
  have s0 : binI .shr .u64 x 0 = x / 1 := s 0 (by omega)
  rw [s56, s48, s40, s32, s24, s16, s8, s0, wfirst x 72057594037927936 (by omega) h0 (by omega)]
  have a := wstep x 281474976710656 (by omega) h0 h1
  have b := wstep x 1099511627776 (by omega) h0 h1
  have c := wstep x 4294967296 (by omega) h0 h1
  have d := wstep x 16777216 (by omega) h0 h1
  have e := wstep x 65536 (by omega) h0 h1
  have f := wstep x 256 (by omega) h0 h1
  have g := wstep x 1 (by omega) h0 h1
  simp only [Int.reduceMul] at a b c d e f g
  rw [a, b, c, d, e, f, g]
  omega
theorem word4 {x : Int} (h : 0 ≤ x ∧ x < 4294967296) : IntKind.u32.wrap (binI .or .u64 (binI .shl .u64 (binI .or .u64 (binI .shl .u64 (binI .or .u64 (binI .shl .u64 (binI .or .u64 0
    (IntKind.u64.wrap (IntKind.u8.wrap (binI .shr .u64 (IntKind.u64.wrap x) 24)))) 8) (IntKind.u64.wrap (IntKind.u8.wrap (binI .shr .u64 (IntKind.u64.wrap x) 16)))) 8) (IntKind.u64.wrap (IntKind.u8.wrap (binI .shr .u64 (IntKind.u64.wrap x) 8)))) 8) (IntKind.u64.wrap (IntKind.u8.wrap (binI .shr .u64 (IntKind.u64.wrap x) 0)))) = x := by
  obtain ⟨h0, h1⟩ := h
  have hw : IntKind.u64.wrap x = x := by rw [u64_wrap]; omega
  have s := fun k hk => shr_u64 x k hk
  have s24 : binI .shr .u64 x 24 = x / 16777216 := s 24 (by omega)
  have s16 : binI .shr .u64 x 16 = x / 65536 := s 16 (by omega)
  have s8 : binI .shr .u64 x 8 = x / 256 := s 8 (by omega)
  have s0 : binI .shr .u64 x 0 = x / 1 := s 0 (by omega)
  rw [hw, s24, s16, s8, s0, wfirst x 16777216 (by omega) h0 (by omega)]
  have e := wstep x 65536 (by omega) h0 (by omega)
  have f := wstep x 256 (by omega) h0 (by omega)
  have g := wstep x 1 (by omega) h0 (by omega)
  simp only [Int.reduceMul] at e f g
  rw [e, f, g, u32_wrap]
  omega
theorem byte1 {x : Int} (h : -128 ≤ x ∧ x ≤ 127) : IntKind.i8.wrap (IntKind.u8.wrap (binI .shr .u64 (IntKind.u64.wrap (IntKind.u8.wrap x)) 0)) = x := by
  have s0 : binI .shr .u64 (IntKind.u64.wrap (IntKind.u8.wrap x)) 0 = IntKind.u64.wrap (IntKind.u8.wrap x) / 1 := shr_u64 _ 0 (by omega)
  rw [s0]
  simp only [u8_wrap, u64_wrap, i8_wrap]
  omega
end Go.SX

/- Symbolic execution of the model's code, part 15: words for contracts of functions of whole numbers. -/
namespace Go.SX
variable {bs : List Ent} {ρ : Env}
theorem dvl_int {k : IntKind} {e : SE} {l : List AV} {vs : List Value} (h : dvl bs ρ (.int k e :: l) = some vs) : inR k (den ρ e) = true ∧ ∃ us, vs = .int k (den ρ e) :: us ∧ dvl bs ρ l = some us := by
  simp only [dvl, Option.bind_eq_some_iff, Option.map_eq_some_iff] at h
  obtain ⟨x, hx, xs, hxs, rfl⟩ := h
  obtain ⟨rfl, hr⟩ := dv_int hx
  exact ⟨hr, xs, rfl, hxs⟩
theorem dvl_end {vs : List Value} (h : dvl bs ρ [] = some vs) : vs = [] := by cases h; rfl
theorem i64_in {x : Int} (h : inR .i64 x = true) : -9223372036854775808 ≤ x ∧ x ≤ 9223372036854775807 := by
  have := of_decide_eq_true h
  simp [IntKind.min, IntKind.max, IntKind.bits, IntKind.signed] at this
  omega
theorem u64_in {x : Int} (h : inR .u64 x = true) : 0 ≤ x ∧ x ≤ 18446744073709551615 := by
  have := of_decide_eq_true h
  simp [IntKind.min, IntKind.max, IntKind.bits, IntKind.signed] at this
  omega
theorem u32_in {x : Int} (h : inR .u32 x = true) : 0 ≤ x ∧ x ≤ 4294967295 := by
  have := of_decide_eq_true h
  simp [IntKind.min, IntKind.max, IntKind.bits, IntKind.signed] at this
  omega
theorem u16_in {x : Int} (h : inR .u16 x = true) : 0 ≤ x ∧ x ≤ 65535 := by
  have := of_decide_eq_true h
  simp [IntKind.min, IntKind.max, IntKind.bits, IntKind.signed] at this
  omega
theorem i32_in {x : Int} (h : inR .i32 x = true) : -2147483648 ≤ x ∧ x ≤ 2147483647 := by
  have := of_decide_eq_true h
  simp [IntKind.min, IntKind.max, IntKind.bits, IntKind.signed] at this
  omega
theorem in_i64 {x : Int} (h : -9223372036854775808 ≤ x ∧ x ≤ 9223372036854775807) : inR .i64 x = true := by
  unfold inR
  simp [IntKind.min, IntKind.max, IntKind.bits, IntKind.signed]
  omega
theorem in_u64 {x : Int} (h : 0 ≤ x ∧ x ≤ 18446744073709551615) : inR .u64 x = true := by
  unfold inR
  simp [IntKind.min, IntKind.max, IntKind.bits, IntKind.signed]
  omega
theorem wrap_i64 {x : Int} (h0 : -9223372036854775808 ≤ x) (h1 : x ≤ 9223372036854775807) : IntKind.i64.wrap x = x := by rw [i64_wrap]; omega
theorem add_i64 {x y : Int} (h0 : -9223372036854775808 ≤ x + y) (h1 : x + y ≤ 9223372036854775807) : binI .add .i64 x y = x + y := by
  show IntKind.i64.wrap (x + y) = _
  exact wrap_i64 h0 h1
theorem sub_i64 {x y : Int} (h0 : -9223372036854775808 ≤ x - y) (h1 : x - y ≤ 9223372036854775807) : binI .sub .i64 x y = x - y := by
  show IntKind.i64.wrap (x - y) = _
  exact wrap_i64 h0 h1
theorem mul_i64 {x y : Int} (h0 : -9223372036854775808 ≤ x * y) (h1 : x * y ≤ 9223372036854775807) : binI .mul .i64 x y = x * y := by
  show IntKind.i64.wrap (x * y) = _
  exact wrap_i64 h0 h1
theorem rem_i64 (x y : Int) : binI .rem .i64 x y = x.tmod y := rfl
theorem dv_pair {k k' : IntKind} {e e' : SE} (h : inR k (den ρ e) = true) (h' : inR k' (den ρ e') = true) : dv bs ρ (.tuple (ofList [.int k e, .int k' e'])) = some (.tuple #[.int k (den ρ e), .int k' (den ρ e')]) := by
  simp only [ofList, dv, dvs, h, h', if_true, Option.bind_some, Option.map_some]
theorem dv_triple {k k' k'' : IntKind} {e e' e'' : SE} (h : inR k (den ρ e) = true) (h' : inR k' (den ρ e') = true) (h'' : inR k'' (den ρ e'') = true) : dv bs ρ (.tuple (ofList [.int k e, .int k' e', .int k'' e''])) = some (.tuple #[.int k (den ρ e), .int k' (den ρ e'), .int k'' (den ρ e'')]) := by
  simp only [ofList, dv, dvs, h, h', h'', if_true, Option.bind_some, Option.map_some]
theorem mn_lt (a b x : Int) : (if b < a then b else a) < x ↔ a < x ∨ b < x := by split <;> omega
theorem le_mn (a b x : Int) : x ≤ (if b < a then b else a) ↔ x ≤ a ∧ x ≤ b := by split <;> omega
theorem lt_mx (a b x : Int) : x < (if b > a then b else a) ↔ x < a ∨ x < b := by split <;> omega
theorem mx_le (a b x : Int) : (if b > a then b else a) ≤ x ↔ a ≤ x ∧ b ≤ x := by split <;> omega
theorem quo_u64 {x : Int} (h : 0 ≤ x ∧ x < 18446744073709551616) : binI .quo .u64 x 256 = x / 256 ∧ 0 ≤ x / 256 ∧ x / 256 < 18446744073709551616 := by
  refine ⟨?_, by omega, by omega⟩
  show IntKind.u64.wrap (x.tdiv 256) = _
  rw [Int.tdiv_eq_ediv_of_nonneg h.1, u64_wrap]
  omega
theorem rem_u8 {x : Int} (h : 0 ≤ x) : IntKind.u8.wrap (binI .rem .u64 x 256) = IntKind.u8.wrap x := by
  show IntKind.u8.wrap (x.tmod 256) = _
  rw [Int.tmod_eq_emod_of_nonneg h, u8_wrap, u8_wrap]
  omega
theorem q0 {e : SE} (h : 0 ≤ den ρ e ∧ den ρ e < 18446744073709551616) : den ρ (.conv .u8 (.bin .rem .u64 e (.lit 256))) = den ρ (.conv .u8 e) := rem_u8 h.1
theorem q1 {e : SE} (h : 0 ≤ den ρ e ∧ den ρ e < 18446744073709551616) : den ρ (.conv .u8 (.bin .rem .u64 (.bin .quo .u64 e (.lit 256)) (.lit 256))) = den ρ (.conv .u8 (.bin .shr .u64 e (.lit 8))) := by
  have h0 := quo_u64 h
  simp only [den]
  rw [h0.1, rem_u8 h0.2.1, show binI .shr .u64 (den ρ e) 8 = den ρ e / 256 from shr_num (den ρ e) 8 (by omega)]
theorem q2 {e : SE} (h : 0 ≤ den ρ e ∧ den ρ e < 18446744073709551616) : den ρ (.conv .u8 (.bin .rem .u64 (.bin .quo .u64 (.bin .quo .u64 e (.lit 256)) (.lit 256)) (.lit 256))) = den ρ (.conv .u8 (.bin .shr .u64 e (.lit 16))) := by
  have h0 := quo_u64 h
  have h1 := quo_u64 h0.2
  simp only [den]
  rw [h0.1, h1.1, rem_u8 h1.2.1, show binI .shr .u64 (den ρ e) 16 = den ρ e / 65536 from shr_num (den ρ e) 16 (by omega)]
  congr 1
  omega
theorem q3 {e : SE} (h : 0 ≤ den ρ e ∧ den ρ e < 18446744073709551616) : den ρ (.conv .u8 (.bin .rem .u64 (.bin .quo .u64 (.bin .quo .u64 (.bin .quo .u64 e (.lit 256)) (.lit 256)) (.lit 256)) (.lit 256))) = den ρ (.conv .u8 (.bin .shr .u64 e (.lit 24))) := by
  have h0 := quo_u64 h
  have h1 := quo_u64 h0.2
  have h2 := quo_u64 h1.2
  simp only [den]
  rw [h0.1, h1.1, h2.1, rem_u8 h2.2.1, show binI .shr .u64 (den ρ e) 24 = den ρ e / 16777216 from shr_num (den ρ e) 24 (by omega)]
  congr 1
  omega
theorem q4 {e : SE} (h : 0 ≤ den ρ e ∧ den ρ e < 18446744073709551616) : den ρ (.conv .u8 (.bin .rem .u64 (.bin .quo .u64 (.bin .quo .u64 (.bin .quo .u64 (.bin .quo .u64 e (.lit 256)) (.lit 256)) (.lit 256)) (.lit 256)) (.lit 256))) = den ρ (.conv .u8 (.bin .shr .u64 e (.lit 32))) := by
  have h0 := quo_u64 h
  have h1 := quo_u64 h0.2
  have h2 := quo_u64 h1.2
  have h3 := quo_u64 h2.2
  simp only [den]
  rw [h0.1, h1.1, h2.1, h3.1, rem_u8 h3.2.1, show binI .shr .u64 (den ρ e) 32 = den ρ e / 4294967296 from shr_num (den ρ e) 32 (by omega)]
  congr 1
  omega
theorem q5 {e : SE} (h : 0 ≤ den ρ e ∧ den ρ e < 18446744073709551616) : den ρ (.conv .u8 (.bin .rem .u64 (.bin .quo .u64 (.bin .quo .u64 (.bin .quo .u64 (.bin .quo .u64 (.bin .quo .u64 e (.lit 256)) (.lit 256)) (.lit 256)) (.lit 256)) (.lit 256)) (.lit 256))) = den ρ (.conv .u8 (.bin .shr .u64 e (.lit 40))) := by
  have h0 := quo_u64 h
  have h1 := quo_u64 h0.2
  have h2 := quo_u64 h1.2
  have h3 := quo_u64 h2.2
  have h4 := quo_u64 h3.2
  simp only [den]
  rw [h0.1, h1.1, h2.1, h3.1, h4.1, rem_u8 h4.2.1, show binI .shr .u64 (den ρ e) 40 = den ρ e / 1099511627776 from shr_num (den ρ e) 40 (by omega)]
  congr 1
  omega
theorem q6 {e : SE} (h : 0 ≤ den ρ e ∧ den ρ e < 18446744073709551616) : den ρ (.conv .u8 (.bin .rem .u64 (.bin .quo .u64 (.bin .quo .u64 (.bin .quo .u64 (.bin .quo .u64 (.bin .quo .u64 (.bin .quo .u64 e (.lit 256)) (.lit 256)) (.lit 256)) (.lit 256)) (.lit 256)) (.lit 256)) (.lit 256))) = den ρ (.conv .u8 (.bin .shr .u64 e (.lit 48))) := by
  have h0 := quo_u64 h
  have h1 := quo_u64 h0.2
  have h2 := quo_u64 h1.2
  have h3 := quo_u64 h2.2
  have h4 := quo_u64 h3.2
  have h5 := quo_u64 h4.2
  simp only [den]
  rw [h0.1, h1.1, h2.1, h3.1, h4.1, h5.1, rem_u8 h5.2.1, show binI .shr .u64 (den ρ e) 48 = den ρ e / 281474976710656 from shr_num (den ρ e) 48 (by omega)]
  congr 1
  omega
theorem q7 {e : SE} (h : 0 ≤ den ρ e ∧ den ρ e < 18446744073709551616) : den ρ (.conv .u8 (.bin .rem .u64 (.bin .quo .u64 (.bin .quo .u64 (.bin .quo .u64 (.bin .quo .u64 (.bin .quo .u64 (.bin .quo .u64 (.bin .quo .u64 e (.lit 256)) (.lit 256)) (.lit 256)) (.lit 256)) (.lit 256)) (.lit 256)) (.lit 256)) (.lit 256))) = den ρ (.conv .u8 (.bin .shr .u64 e (.lit 56))) := by
  have h0 := quo_u64 h
  have h1 := quo_u64 h0.2
  have h2 := quo_u64 h1.2
  have h3 := quo_u64 h2.2
  have h4 := quo_u64 h3.2
  have h5 := quo_u64 h4.2
  have h6 := quo_u64 h5.2
  simp only [den]
  rw [h0.1, h1.1, h2.1, h3.1, h4.1, h5.1, h6.1, rem_u8 h6.2.1, show binI .shr .u64 (den ρ e) 56 = den ρ e / 72057594037927936 from shr_num (den ρ e) 56 (by omega)]
  congr 1
  omega
theorem lt_mn (a b x : Int) : x < (if b < a then b else a) ↔ x < a ∧ x < b := by split <;> omega
theorem mn_le (a b x : Int) : (if b < a then b else a) ≤ x ↔ a ≤ x ∨ b ≤ x := by split <;> omega
theorem mx_lt (a b x : Int) : (if b > a then b else a) < x ↔ a < x ∧ b < x := by split <;> omega
theorem le_mx (a b x : Int) : x ≤ (if b > a then b else a) ↔ x ≤ a ∨ x ≤ b := by split <;> omega
end Go.SX

/- Symbolic execution of the model's code, part 16: what is told of a call once, in letters, holds of all its calls. -/
namespace Go.SX
set_option linter.unusedSimpArgs false
set_option linter.unusedVariables false
variable {bs : List Ent} {ρ : Env} {P : Program} {w : World} {S : Nat → Prop} {w0 : World}

/-- What a pattern's letters, blocks and rows' letters stand for. -/
structure Sig where
  v : List (Nat × SE)
  b : List Nat
  g : List (Nat × Nat)
def renG (j : Nat) : List (Nat × Nat) → Nat
  | [] => j
  | (i, k) :: r => if i = j then k else renG j r
def Env.sig (ρ : Env) (σ : Sig) : Env := { v := fun i => den ρ (subV σ.v i), f := fun j l => ρ.f (renG j σ.g) l }

def mkAndL : SE → SE → SE
  | .lit x, .lit y => .lit (ofB (x != 0 && y != 0))
  | a, b => .and a b
theorem den_mkAndL (a b : SE) : den ρ (mkAndL a b) = ofB (den ρ a != 0 && den ρ b != 0) := by
  unfold mkAndL; split <;> rfl
mutual
def SE.subN (σ : Sig) : SE → SE
  | .var i => subV σ.v i
  | .bin op k a b => mkBin op k (a.subN σ) (b.subN σ)
  | .conv k a => mkConv k (a.subN σ)
  | .cmp op a b => mkCmp op (a.subN σ) (b.subN σ)
  | .not a => mkNot (a.subN σ)
  | .and a b => mkAndL (a.subN σ) (b.subN σ)
  | .mx a b => mkMx (a.subN σ) (b.subN σ)
  | .mn a b => mkMn (a.subN σ) (b.subN σ)
  | .app f a => .app (renG f σ.g) (a.subM σ)
  | .cons _ _ => .lit 0
  | .lit n => .lit n
  | .nil => .lit 0
def SE.subM (σ : Sig) : SE → SE
  | .cons a b => .cons (a.subN σ) (b.subM σ)
  | _ => .nil
end
mutual
theorem den_subN (σ : Sig) : ∀ e : SE, den ρ (e.subN σ) = den (ρ.sig σ) e
  | .lit n => rfl
  | .var i => rfl
  | .bin op k a b => by simp only [SE.subN, den_mkBin, den, den_subN σ a, den_subN σ b]
  | .conv k a => by simp only [SE.subN, den_mkConv, den, den_subN σ a]
  | .cmp op a b => by simp only [SE.subN, den_mkCmp, den, den_subN σ a, den_subN σ b]
  | .not a => by
    simp only [SE.subN, den_mkNot, den, evB, den_subN σ a]
    congr 1
    simp [bne]
  | .and a b => by simp only [SE.subN, den_mkAndL, den, den_subN σ a, den_subN σ b]
  | .mx a b => by simp only [SE.subN, den_mkMx, den, den_subN σ a, den_subN σ b]
  | .mn a b => by simp only [SE.subN, den_mkMn, den, den_subN σ a, den_subN σ b]
  | .app f a => by simp only [SE.subN, den, dens_subM σ a]; rfl
  | .nil => rfl
  | .cons _ _ => rfl
theorem dens_subM (σ : Sig) : ∀ e : SE, dens ρ (e.subM σ) = dens (ρ.sig σ) e
  | .cons a b => by simp only [SE.subM, dens, den_subN σ a, dens_subM σ b]
  | .lit _ | .bin _ _ _ _ | .conv _ _ | .cmp _ _ _ | .not _ | .and _ _ | .mx _ _ | .mn _ _ | .app _ _ | .nil | .var _ => rfl
end
/-- A condition: of it its truth alone counts. -/
def SE.subB (σ : Sig) : SE → SE
  | .and a b => mkAnd (a.subB σ) (b.subB σ)
  | .not a => mkNot (a.subB σ)
  | e => e.subN σ
theorem evB_subB (σ : Sig) : ∀ e : SE, evB ρ (e.subB σ) = evB (ρ.sig σ) e
  | .and a b => by
    rw [SE.subB, evB_mkAnd, evB_subB σ a, evB_subB σ b]
    show _ = (ofB _ != 0)
    rw [ofB_bne]; rfl
  | .not a => by
    rw [SE.subB, evB_mkNot, evB_subB σ a]
    show _ = (ofB _ != 0)
    rw [ofB_bne]
    simp [evB, bne]
  | .lit n => by simp only [SE.subB, evB, den_subN]
  | .var n => by simp only [SE.subB, evB, den_subN]
  | .bin _ _ _ _ => by simp only [SE.subB, evB, den_subN]
  | .conv _ _ => by simp only [SE.subB, evB, den_subN]
  | .cmp _ _ _ => by simp only [SE.subB, evB, den_subN]
  | .mx _ _ => by simp only [SE.subB, evB, den_subN]
  | .mn _ _ => by simp only [SE.subB, evB, den_subN]
  | .app _ _ => by simp only [SE.subB, evB, den_subN]
  | .nil => by simp only [SE.subB, evB, den_subN]
  | .cons _ _ => by simp only [SE.subB, evB, den_subN]

def renB (b : List Nat) (n i : Nat) : Nat := match b[i]? with
  | some j => j
  | none => n + (i - b.length)
def AV.subR (σ : Sig) (n : Nat) : AV → AV
  | .int k e => .int k (e.subN σ)
  | .bool e => .bool (e.subB σ)
  | .ptr id off => .ptr (renB σ.b n id) off
  | .sptr id i s o => .sptr (renB σ.b n id) (i.subN σ) s o
  | .slice id o l c => .slice (renB σ.b n id) o (l.subN σ) (c.subN σ)
  | .arg id => .arg (renB σ.b n id)
  | .mapv id => .mapv (renB σ.b n id)
  | .row id o l s => .row (renB σ.b n id) o (l.subN σ) s
  | .bstr l => .bstr (l.subM σ)
  | .fn f c => .fn f (c.subR σ n)
  | .fnx f c => .fnx f (c.subR σ n)
  | .iface t v => .iface t (v.subR σ n)
  | .xslice b o l c => .xslice (b.subN σ) (o.subN σ) (l.subN σ) (c.subN σ)
  | .agg l => .agg (l.subR σ n)
  | .tuple l => .tuple (l.subR σ n)
  | .cons a b => .cons (a.subR σ n) (b.subR σ n)
  | v => v
mutual
theorem dv_subR {bs bp : List Ent} (σ : Sig) (n : Nat) (h : ∀ i, bs[renB σ.b n i]? = bp[i]?) : ∀ a : AV, dv bs ρ (a.subR σ n) = dv bp (ρ.sig σ) a
  | .int k e => by simp only [AV.subR, dv, den_subN]
  | .bool e => by simp only [AV.subR, dv, evB_subB]
  | .ptr id off => by simp only [AV.subR, dv, h]
  | .sptr id i s o => by simp only [AV.subR, dv, h, den_subN]
  | .slice id o l c => by simp only [AV.subR, dv, h, den_subN]
  | .arg id => by simp only [AV.subR, dv, h]
  | .mapv id => by simp only [AV.subR, dv, h]
  | .row id o l s => by simp only [AV.subR, dv, h, den_subN]
  | .bstr l => by simp only [AV.subR, dv, dens_subM]
  | .fn f c => by simp only [AV.subR, dv, dvs_subR σ n h c]
  | .fnx f c => by simp only [AV.subR, dv, dvs_subR σ n h c]
  | .iface t v => by simp only [AV.subR, dv, dv_subR σ n h v]
  | .xslice b o l c => by simp only [AV.subR, dv, den_subN]
  | .agg l => by simp only [AV.subR, dv, dvs_subR σ n h l]
  | .tuple l => by simp only [AV.subR, dv, dvs_subR σ n h l]
  | .cons a b => rfl
  | .str _ | .nilptr | .gptr _ | .nilslice | .nilFunc | .nilIface | .nil => rfl
theorem dvs_subR {bs bp : List Ent} (σ : Sig) (n : Nat) (h : ∀ i, bs[renB σ.b n i]? = bp[i]?) : ∀ a : AV, dvs bs ρ (a.subR σ n) = dvs bp (ρ.sig σ) a
  | .cons a b => by simp only [AV.subR, dvs, dv_subR σ n h a, dvs_subR σ n h b]
  | .int _ _ | .bool _ | .xslice _ _ _ _ | .sptr _ _ _ _ | .slice _ _ _ _ | .row _ _ _ _ | .bstr _ | .fn _ _ | .fnx _ _ | .iface _ _ | .agg _ | .tuple _
  | .str _ | .ptr _ _ | .arg _ | .mapv _ | .nilptr | .gptr _ | .nilslice | .nilFunc | .nilIface | .nil => rfl
end
theorem dvl_subR {bs bp : List Ent} (σ : Sig) (n : Nat) (h : ∀ i, bs[renB σ.b n i]? = bp[i]?) : ∀ l : List AV, dvl bs ρ (l.map (AV.subR σ n)) = dvl bp (ρ.sig σ) l
  | [] => rfl
  | a :: l => by simp only [List.map_cons, dvl, dv_subR σ n h a, dvl_subR σ n h l]

def Col.ren (g : List (Nat × Nat)) : Col → Col
  | .int k j => .int k (renG j g)
  | .bool j => .bool (renG j g)
  | .sl b o n c => .sl (renG b g) (renG o g) (renG n g) (renG c g)
theorem colV_ren (σ : Sig) (i : Int) (p : Col) : colV ρ i (p.ren σ.g) = colV (ρ.sig σ) i p := by cases p <;> rfl
theorem colOk_ren (σ : Sig) (i : Int) (p : Col) : colOk ρ i (p.ren σ.g) = colOk (ρ.sig σ) i p := by cases p <;> rfl
def AObj.subR (σ : Sig) (n : Nat) : AObj → AObj
  | .cells c ty own g => .cells (c.map (AV.subR σ n)) ty own g
  | .sym m cap row ty => .sym (m.subN σ) (cap.subN σ) (row.map (Col.ren σ.g)) ty
  | .mp ks vs => .mp ks (vs.map (AV.subR σ n))
  | .dead => .dead
theorem ORel.subR {bs bp : List Ent} (σ : Sig) (n : Nat) (h : ∀ i, bs[renB σ.b n i]? = bp[i]?) {b : Ent} {o : AObj} : ORel bs ρ w b (o.subR σ n) ↔ ORel bp (ρ.sig σ) w b o := by
  cases o with
  | cells c ty own g => simp only [AObj.subR, ORel, dvl_subR σ n h]
  | sym m cap row ty =>
    simp only [AObj.subR, ORel, den_subN, List.length_map]
    constructor
    · rintro ⟨e1, e2, e3, e4, e5, e6⟩
      refine ⟨e1, e2, e3, e4, e5, fun h0 => ?_⟩
      obtain ⟨e7, e8, e9⟩ := e6 h0
      refine ⟨e7, e8, fun i j p hi hp => ?_⟩
      have := e9 i j (p.ren σ.g) hi (by simp [hp])
      rw [colV_ren, colOk_ren] at this
      exact this
    · rintro ⟨e1, e2, e3, e4, e5, e6⟩
      refine ⟨e1, e2, e3, e4, e5, fun h0 => ?_⟩
      obtain ⟨e7, e8, e9⟩ := e6 h0
      refine ⟨e7, e8, fun i j p hi hp => ?_⟩
      rw [List.getElem?_map, Option.map_eq_some_iff] at hp
      obtain ⟨q, hq, rfl⟩ := hp
      rw [colV_ren, colOk_ren]
      exact e9 i j q hi hq
  | mp ks vs => simp only [AObj.subR, ORel, dvl_subR σ n h]
  | dead => exact Iff.rfl
theorem mine_subR (σ : Sig) (n : Nat) (o : AObj) : (o.subR σ n).mine = o.mine := by cases o <;> rfl
theorem Occ.subR (σ : Sig) (n : Nat) (o : AObj) : Occ ρ (o.subR σ n) ↔ Occ (ρ.sig σ) o := by
  cases o with
  | cells => exact Iff.rfl
  | sym m cap row ty => simp only [AObj.subR, Occ, den_subN]
  | mp => exact Iff.rfl
  | dead => exact Iff.rfl

/-- What is told of a function's call: arguments and memory in letters, and what it comes to. -/
structure Pat where
  args : List AV
  mem : List AObj
  out : Out

structure Acc where
  v : List (Nat × SE) := []
  b : List (Nat × Nat) := []
  g : List (Nat × Nat) := []
def Acc.s (acc : Acc) (p e : SE) : Acc := match p with
  | .var i => { acc with v := (i, e) :: acc.v }
  | _ => acc
def Acc.k (acc : Acc) (i j : Nat) : Acc := { acc with b := (i, j) :: acc.b }
def bindA : AV → AV → Acc → Acc
  | .int _ p, .int _ e, acc => acc.s p e
  | .bool p, .bool e, acc => acc.s p e
  | .ptr i _, .ptr j _, acc => acc.k i j
  | .slice i _ n c, .slice j _ n' c', acc => ((acc.k i j).s n n').s c c'
  | .arg i, .arg j, acc => acc.k i j
  | .mapv i, .mapv j, acc => acc.k i j
  | .row i _ n _, .row j _ n' _, acc => (acc.k i j).s n n'
  | .fn _ c, .fn _ c', acc => bindA c c' acc
  | .iface _ c, .iface _ c', acc => bindA c c' acc
  | .agg l, .agg l', acc => bindA l l' acc
  | .tuple l, .tuple l', acc => bindA l l' acc
  | .cons a r, .cons a' r', acc => bindA r r' (bindA a a' acc)
  | _, _, acc => acc
def bindAs : List AV → List AV → Acc → Acc
  | a :: l, b :: m, acc => bindAs l m (bindA a b acc)
  | _, _, acc => acc
def bindCs : List Col → List Col → List (Nat × Nat) → List (Nat × Nat)
  | .int _ g :: l, .int _ g' :: m, acc => bindCs l m ((g, g') :: acc)
  | .bool g :: l, .bool g' :: m, acc => bindCs l m ((g, g') :: acc)
  | .sl b o n c :: l, .sl b' o' n' c' :: m, acc => bindCs l m ((b, b') :: (o, o') :: (n, n') :: (c, c') :: acc)
  | _, _, acc => acc
def bindO : AObj → AObj → Acc → Acc
  | .cells c _ _ _, .cells c' _ _ _, acc => bindAs c c' acc
  | .sym n c row _, .sym n' c' row' _, acc => let a := (acc.s n n').s c c'; { a with g := bindCs row row' a.g }
  | _, _, acc => acc
def lookB (i : Nat) : List (Nat × Nat) → Option Nat
  | [] => none
  | (j, k) :: r => if j = i then some k else lookB i r
def bindM (mem : List AObj) : List AObj → Nat → Acc → Acc
  | [], _, acc => acc
  | o :: r, i, acc => match lookB i acc.b with
    | some j => match mem[j]? with
      | some o' => bindM mem r (i + 1) (bindO o o' acc)
      | none => acc
    | none => acc
def sigOf (pat : Pat) (args : List AV) (mem : List AObj) : Sig :=
  let acc := bindM mem pat.mem 0 (bindAs pat.args args {})
  ⟨acc.v, (List.range pat.mem.length).map fun i => (lookB i acc.b).getD 0, acc.g⟩

def findB (p : Nat) : List Nat → Nat → Option Nat
  | [], _ => none
  | j :: r, i => if j = p then some i else findB p r (i + 1)
theorem findB_some {p : Nat} : ∀ {b : List Nat} {i k : Nat}, findB p b i = some k → ∃ d, k = i + d ∧ b[d]? = some p
  | [], i, k, h => by cases h
  | j :: r, i, k, h => by
    simp only [findB] at h
    split at h
    · rename_i he; cases h; exact ⟨0, rfl, by simp [he]⟩
    · obtain ⟨d, h1, h2⟩ := findB_some h; exact ⟨d + 1, by omega, by simpa using h2⟩
theorem findB_none {p : Nat} : ∀ {b : List Nat} {i : Nat}, findB p b i = none → ∀ d : Nat, b[d]? ≠ some p
  | [], i, h, d => by simp
  | j :: r, i, h, d => by
    simp only [findB] at h
    split at h
    · cases h
    · rename_i he
      cases d with
      | zero => simpa using he
      | succ d => simpa using findB_none h d
def nodupB : List Nat → Bool
  | [] => true
  | j :: r => !r.contains j && nodupB r
theorem nodupB_spec : ∀ {b : List Nat}, nodupB b = true → ∀ (i j : Nat) p, b[i]? = some p → b[j]? = some p → i = j
  | [], _, i, j, p, h, _ => by simp at h
  | x :: r, h, i, j, p, hi, hj => by
    simp only [nodupB, Bool.and_eq_true, Bool.not_eq_true', List.contains_eq_mem, decide_eq_false_iff_not] at h
    cases i with
    | zero =>
      cases j with
      | zero => rfl
      | succ j => simp at hi hj; subst hi; exact absurd (List.mem_of_getElem? hj) h.1
    | succ i =>
      cases j with
      | zero => simp at hi hj; subst hj; exact absurd (List.mem_of_getElem? hi) h.1
      | succ j => rw [nodupB_spec h.2 i j p (by simpa using hi) (by simpa using hj)]

def placed (σ : Sig) (mem m : List AObj) : List AObj :=
  (mem.zipIdx.map fun p => match findB p.2 σ.b 0 with
    | some i => (m.getD i .dead).subR σ mem.length
    | none => p.1) ++ (m.drop σ.b.length).map (AObj.subR σ mem.length)
def leafOk : List AObj → List AObj → Bool
  | [], m => m.all fun o => match o with
    | .cells _ _ own _ => own
    | .dead => true
    | .mp .. => true
    | .sym .. => false
  | o :: r, o' :: m => (match o with
    | .cells .. => match o' with
      | .sym .. => false
      | _ => true
    | .sym .. => beqO o o'
    | .mp .. => false
    | .dead => false) && leafOk r m
  | _ :: _, [] => false
def beqM : List AObj → List AObj → Bool
  | [], [] => true
  | x :: l, y :: m => beqO x y && beqM l m
  | _, _ => false
theorem beqM_eq : ∀ {l m : List AObj}, beqM l m = true → l = m
  | [], [], _ => rfl
  | x :: l, y :: m, h => by
    simp only [beqM, Bool.and_eq_true] at h
    rw [beqO_eq h.1, beqM_eq h.2]
  | [], _ :: _, h => by cases h
  | _ :: _, [], h => by cases h
def Out.inst (σ : Sig) (pm mem : List AObj) : Out → Out
  | .ite c a b => .ite (c.subB σ) (a.inst σ pm mem) (b.inst σ pm mem)
  | .need c a => .need (c.subB σ) (a.inst σ pm mem)
  | .done v m => if leafOk pm m = true then (if beqM m pm = true then .done (v.subR σ mem.length) mem else .done (v.subR σ mem.length) (placed σ mem m)) else .fail 21
  | .fail n => .fail n
def fitsM (σ : Sig) (mem : List AObj) : List AObj → List Nat → Bool
  | [], [] => true
  | o :: r, j :: b => (match mem[j]? with
    | some o' => beqO (o.subR σ mem.length) o'
    | none => false) && (match o with
    | .dead => false
    | _ => true) && fitsM σ mem r b
  | _, _ => false
def inst (pat : Pat) (args : List AV) (mem : List AObj) : Option Out :=
  let σ := sigOf pat args mem
  if beqL (pat.args.map (AV.subR σ mem.length)) args && fitsM σ mem pat.mem σ.b && nodupB σ.b && σ.g.all (fun p => p.1 < 100) then some (pat.out.inst σ pat.mem mem) else none

/-- What a contract in letters says. -/
def SumOk (P : Program) (F : Nat → List Int → Int) (f : FuncId) (pat : Pat) : Prop :=
  ∀ (S : Nat → Prop) (w0 : World) (bs : List Ent) (ρ : Env) (w : World) (vs : List Value) (v : AV) (mem' : List AObj), (∀ j, 100 ≤ j → j < 200 → ρ.f j = F j) → dvl bs ρ pat.args = some vs → RelM bs ρ S w0 pat.mem w →
    pat.out.pick ρ = some (v, mem') → Comes P S w0 bs ρ f vs w v mem'

theorem fitsM_get {σ : Sig} {mem : List AObj} : ∀ {pm : List AObj} {b : List Nat}, fitsM σ mem pm b = true → b.length = pm.length ∧ ∀ (i : Nat) (o : AObj), pm[i]? = some o → ∃ j : Nat, b[i]? = some j ∧ mem[j]? = some (o.subR σ mem.length) ∧ o ≠ .dead
  | [], [], h => ⟨rfl, fun i o ho => by simp at ho⟩
  | o :: r, j :: b, h => by
    simp only [fitsM, Bool.and_eq_true] at h
    obtain ⟨⟨h1, h2⟩, h3⟩ := h
    obtain ⟨h4, h5⟩ := fitsM_get h3
    refine ⟨by simp [h4], fun i p hp => ?_⟩
    cases i with
    | zero =>
      simp at hp; subst hp
      refine ⟨j, rfl, ?_, ?_⟩
      · split at h1
        · rename_i o' ho'; rw [ho', beqO_eq h1]
        · cases h1
      · rintro rfl; cases h2
    | succ i => exact h5 i p (by simpa using hp)
  | [], _ :: _, h => by simp [fitsM] at h
  | _ :: _, [], h => by simp [fitsM] at h

theorem leafOk_get : ∀ {pm m : List AObj}, leafOk pm m = true → pm.length ≤ m.length ∧ (∀ (i : Nat) (o o' : AObj), pm[i]? = some o → m[i]? = some o' → (∃ n c row ty, o = .sym n c row ty ∧ o' = o) ∨ (∃ c ty own g, o = .cells c ty own g)) ∧
    ∀ (i : Nat) (o' : AObj), pm.length ≤ i → m[i]? = some o' → o'.mine = true ∨ o' = .dead
  | [], m, h => by
    refine ⟨Nat.zero_le _, fun i o o' ho => by simp at ho, fun i o' _ ho' => ?_⟩
    have := List.all_eq_true.1 h o' (List.mem_of_getElem? ho')
    cases o' with
    | cells c ty own g => exact .inl this
    | dead => exact .inr rfl
    | mp => exact .inl rfl
    | sym => cases this
  | o :: r, [], h => by simp [leafOk] at h
  | o :: r, o1 :: m, h => by
    simp only [leafOk, Bool.and_eq_true] at h
    obtain ⟨h1, h2⟩ := h
    obtain ⟨h3, h4, h5⟩ := leafOk_get h2
    refine ⟨by simp; exact h3, fun i p p' hp hp' => ?_, fun i o' hi ho' => ?_⟩
    · cases i with
      | zero =>
        simp at hp hp'; subst hp; subst hp'
        cases o with
        | cells c ty own g => exact .inr ⟨c, ty, own, g, rfl⟩
        | sym n c row ty => exact .inl ⟨n, c, row, ty, rfl, (beqO_eq h1).symm⟩
        | mp => cases h1
        | dead => cases h1
      | succ i => exact h4 i p p' (by simpa using hp) (by simpa using hp')
    · cases i with
      | zero => simp at hi
      | succ i => exact h5 i o' (by simpa using hi) (by simpa using ho')

theorem placed_same {σ : Sig} {mem pm : List AObj} (h : fitsM σ mem pm σ.b = true) : placed σ mem pm = mem := by
  obtain ⟨h1, h2⟩ := fitsM_get h
  unfold placed
  rw [List.drop_eq_nil_of_le (by omega), List.map_nil, List.append_nil]
  refine List.ext_getElem? fun p => ?_
  rw [List.getElem?_map, List.getElem?_zipIdx]
  cases hp : mem[p]? with
  | none => rfl
  | some o =>
    simp only [Option.map_some, Nat.zero_add]
    cases hf : findB p σ.b 0 with
    | none => rfl
    | some i =>
      obtain ⟨d, hd, hb⟩ := findB_some hf
      rw [Nat.zero_add] at hd; subst hd
      have hi : i < pm.length := by have := (List.getElem?_eq_some_iff.1 hb).1; omega
      obtain ⟨j, hj, hm, _⟩ := h2 i pm[i] (List.getElem?_eq_getElem hi)
      rw [hb] at hj; cases hj
      rw [hp] at hm
      simp only [List.getD_eq_getElem?_getD, List.getElem?_eq_getElem hi, Option.getD_some]
      exact hm.symm
theorem pick_inst {σ : Sig} {pm mem : List AObj} (hpl : placed σ mem pm = mem) : ∀ {out : Out} {v : AV} {mem' : List AObj}, (out.inst σ pm mem).pick ρ = some (v, mem') →
    ∃ u m, out.pick (ρ.sig σ) = some (u, m) ∧ v = u.subR σ mem.length ∧ mem' = placed σ mem m ∧ leafOk pm m = true := by
  intro out
  induction out with
  | ite c a b iha ihb =>
    intro v mem' h
    simp only [Out.inst, Out.pick, evB_subB] at h ⊢
    split at h
    · rename_i hc; rw [if_pos hc]; exact iha h
    · rename_i hc; rw [if_neg hc]; exact ihb h
  | need c a iha =>
    intro v mem' h
    simp only [Out.inst, Out.pick, evB_subB] at h ⊢
    split at h
    · rename_i hc; rw [if_pos hc]; exact iha h
    · cases h
  | done u m =>
    intro v mem' h
    simp only [Out.inst] at h
    split at h
    · rename_i hl
      split at h
      · rename_i hb
        obtain rfl := beqM_eq hb
        cases h
        exact ⟨u, _, rfl, rfl, hpl.symm, hl⟩
      · cases h; exact ⟨u, m, rfl, rfl, rfl, hl⟩
    · cases h
  | fail n => intro v mem' h; cases h

theorem inst_sound {F : Nat → List Int → Int} {f : FuncId} {pat : Pat} (hs : SumOk P F f pat) {args : List AV} {mem : List AObj} {out : Out} (hi : inst pat args mem = some out)
    {vs : List Value} {v : AV} {mem' : List AObj} (hF : ∀ j, 100 ≤ j → j < 200 → ρ.f j = F j) (hvs : dvl bs ρ args = some vs) (hm : RelM bs ρ S w0 mem w) (hp : out.pick ρ = some (v, mem')) : Comes P S w0 bs ρ f vs w v mem' := by
  unfold inst at hi
  simp only at hi
  generalize sigOf pat args mem = σ at hi
  split at hi
  · rename_i hc
    cases hi
    simp only [Bool.and_eq_true] at hc
    obtain ⟨⟨⟨hargs, hfit⟩, hnd⟩, hg⟩ := hc
    obtain ⟨hbl, hget⟩ := fitsM_get hfit
    have hnd := nodupB_spec hnd
    have hargs := beqL_eq hargs
    obtain ⟨u, m, hpick, rfl, rfl, hleaf⟩ := pick_inst (placed_same hfit) hp
    obtain ⟨hml, hold, hnew⟩ := leafOk_get hleaf
    -- the pattern's blocks
    let bp : List Ent := σ.b.map fun j => bs.getD j ⟨0, 0, 0, none, 0⟩
    have hbp : ∀ ex : List Ent, ∀ i, (bs ++ ex)[renB σ.b mem.length i]? = (bp ++ ex)[i]? := fun ex i => by
      unfold renB
      cases hb : σ.b[i]? with
      | some j =>
        have hi : i < σ.b.length := (List.getElem?_eq_some_iff.1 hb).1
        obtain ⟨o, ho⟩ : ∃ o, pat.mem[i]? = some o := ⟨_, List.getElem?_eq_getElem (by omega)⟩
        obtain ⟨j', hj', hmj, _⟩ := hget i o ho
        rw [hb] at hj'; cases hj'
        have hj : j < bs.length := by rw [hm.len]; exact (List.getElem?_eq_some_iff.1 hmj).1
        simp only
        rw [List.getElem?_append_left hj, List.getElem?_append_left (by simp [bp]; exact hi)]
        simp [bp, hb, List.getD_eq_getElem?_getD, List.getElem?_eq_getElem hj]
      | none =>
        have hi : σ.b.length ≤ i := List.getElem?_eq_none_iff.1 hb
        simp only
        rw [← hm.len, List.getElem?_append_right (by omega), List.getElem?_append_right (by simp [bp]; exact hi)]
        congr 1
        simp [bp]
    have hbp0 : ∀ i, bs[renB σ.b mem.length i]? = bp[i]? := fun i => by have := hbp [] i; simpa using this
    have hblk : ∀ (i j : Nat) (b : Ent), σ.b[i]? = some j → bs[j]? = some b → bp[i]? = some b := fun i j b h1 h2 => by
      have := hbp0 i
      unfold renB at this
      rw [h1] at this
      rw [← this]; exact h2
    have hblk' : ∀ (i : Nat) (b : Ent), bp[i]? = some b → ∃ j : Nat, σ.b[i]? = some j ∧ bs[j]? = some b := fun i b h1 => by
      have hi : i < σ.b.length := by have := (List.getElem?_eq_some_iff.1 h1).1; simpa [bp] using this
      refine ⟨σ.b[i], List.getElem?_eq_getElem hi, ?_⟩
      have := hbp0 i
      unfold renB at this
      rw [List.getElem?_eq_getElem hi, h1] at this
      exact this
    let S' : Nat → Prop := fun x => x < w.heap.size ∧ ∀ (i : Nat) (o : AObj) (b : Ent), pat.mem[i]? = some o → o.mine = true → bp[i]? = some b → b.blk ≠ x
    -- what is not kept is new, or the caller's own
    have hnS : ∀ x, ¬ S' x → w.heap.size ≤ x ∨ ∃ (i j : Nat) (o : AObj) (b : Ent), pat.mem[i]? = some o ∧ o.mine = true ∧ σ.b[i]? = some j ∧ bs[j]? = some b ∧ b.blk = x := fun x hx => by
      by_cases h1 : x < w.heap.size
      · refine .inr ?_
        false_or_by_contra
        rename_i hno
        refine hx ⟨h1, fun i o b h2 h3 h4 h5 => hno ?_⟩
        obtain ⟨j, h6, h7⟩ := hblk' i b h4
        exact ⟨i, j, o, b, h2, h3, h6, h7, h5⟩
      · exact .inl (by omega)
    have hmem : ∀ (i j : Nat) (o : AObj), pat.mem[i]? = some o → σ.b[i]? = some j → mem[j]? = some (o.subR σ mem.length) := fun i j o h1 h2 => by
      obtain ⟨j', h3, h4, _⟩ := hget i o h1
      rw [h2] at h3; cases h3; exact h4
    have hSS : ∀ x, S x → S' x := fun x hx => by
      refine ⟨by have := hm.keep.old x hx; have := hm.keep.size; omega, fun i o b h1 h2 h3 h4 => ?_⟩
      obtain ⟨j, h5, h6⟩ := hblk' i b h3
      exact hm.own j _ b (hmem i j o h1 h5) (by rw [mine_subR]; exact h2) h6 (h4 ▸ hx)
    have hM : RelM bp (ρ.sig σ) S' w pat.mem w := by
      refine ⟨by simp [bp, hbl], fun i o ho => ?_, fun i o b ho hmi hb hS => hS.2 i o b ho hmi hb rfl, fun i j o o' b b' hij ho ho' hmi hoc hb hb' => ?_, rfl, rfl, rfl, Nat.le_refl _, fun _ _ => rfl, fun _ h => h.1⟩
      · obtain ⟨j, hj, hmj, _⟩ := hget i o ho
        obtain ⟨b, hb, hr⟩ := hm.rel j _ hmj
        exact ⟨b, hblk i j b hj hb, (ORel.subR σ mem.length hbp0).1 hr⟩
      · obtain ⟨k, hk, hbk⟩ := hblk' i b hb
        obtain ⟨k', hk', hbk'⟩ := hblk' j b' hb'
        refine hm.apart k k' _ _ b b' (fun e => hij ?_) (hmem i k o ho hk) (hmem j k' o' ho' hk') (by rw [mine_subR]; exact hmi) ((Occ.subR σ _ _).2 hoc) hbk hbk'
        subst e
        exact hnd i j k hk hk'
    have hvs' : dvl bp (ρ.sig σ) pat.args = some vs := by rw [← dvl_subR σ mem.length hbp0, hargs]; exact hvs
    have hF' : ∀ j, 100 ≤ j → j < 200 → (ρ.sig σ).f j = F j := fun j hj hj2 => by
      have : renG j σ.g = j := by
        have key : ∀ l : List (Nat × Nat), l.all (fun p => decide (p.1 < 100)) = true → renG j l = j := by
          intro l
          induction l with
          | nil => intro _; rfl
          | cons p r ih =>
            intro h
            simp only [List.all_cons, Bool.and_eq_true, decide_eq_true_eq] at h
            obtain ⟨x, y⟩ := p
            simp only [renG]
            rw [if_neg (by have := h.1; simp only at this; omega)]
            exact ih h.2
        exact key σ.g hg
      show (fun l => ρ.f (renG j σ.g) l) = F j
      rw [this]
      exact hF j hj hj2
    refine (hs S' w bp (ρ.sig σ) w vs u m hF' hvs' hM hpick).mono ?_
    rintro e w' ⟨ex, z, rfl, hz, hM'⟩
    refine ⟨ex, z, rfl, by rw [dv_subR σ mem.length (hbp ex)]; exact hz, ?_⟩
    have hlen' : (bp ++ ex).length = m.length := hM'.len
    have hexl : bs.length + ex.length = mem.length + (m.length - σ.b.length) := by
      have : bp.length = σ.b.length := by simp [bp]
      rw [List.length_append] at hlen'
      have := hm.len
      omega
    have hlt : ∀ (p : Nat) (o : AObj) (b : Ent), mem[p]? = some o → Occ ρ o → bs[p]? = some b → b.blk < w.heap.size := fun p o b h1 h2 h3 => by
      obtain ⟨b', h4, h5⟩ := hm.rel p o h1
      rw [h3] at h4; cases h4
      exact h5.lt h2
    -- three kinds of places
    have place : ∀ (p : Nat) (o : AObj), (placed σ mem m)[p]? = some o →
        (mem[p]? = some o ∧ (∀ d : Nat, σ.b[d]? ≠ some p) ∧ (bs ++ ex)[p]? = bs[p]?) ∨
        (∃ i q, m[i]? = some q ∧ o = q.subR σ mem.length ∧ (bs ++ ex)[p]? = (bp ++ ex)[i]? ∧ ((σ.b[i]? = some p) ∨ (σ.b.length ≤ i ∧ p = mem.length + (i - σ.b.length)))) := fun p o ho => by
      unfold placed at ho
      by_cases hp : p < mem.length
      · rw [List.getElem?_append_left (by simpa using hp)] at ho
        rw [List.getElem?_map, Option.map_eq_some_iff] at ho
        obtain ⟨⟨o1, p1⟩, h1, h2⟩ := ho
        rw [List.getElem?_zipIdx, Option.map_eq_some_iff] at h1
        obtain ⟨o2, h3, h4⟩ := h1
        simp only [Nat.zero_add, Prod.mk.injEq] at h4
        obtain ⟨rfl, rfl⟩ := h4
        simp only at h2
        split at h2
        · rename_i i hf
          obtain ⟨d, hd, hb⟩ := findB_some hf
          rw [Nat.zero_add] at hd; subst hd
          have hi : i < σ.b.length := (List.getElem?_eq_some_iff.1 hb).1
          have him : i < m.length := by omega
          refine .inr ⟨i, m[i], List.getElem?_eq_getElem him, ?_, ?_, .inl hb⟩
          · rw [← h2, List.getD_eq_getElem?_getD, List.getElem?_eq_getElem him]; rfl
          · have := hbp ex i
            unfold renB at this
            rw [hb] at this
            exact this
        · rename_i hf
          subst h2
          exact .inl ⟨h3, findB_none hf, List.getElem?_append_left (by rw [hm.len]; exact hp)⟩
      · rw [List.getElem?_append_right (by simp; omega)] at ho
        simp only [List.length_map, List.length_zipIdx] at ho
        rw [List.getElem?_map, Option.map_eq_some_iff] at ho
        obtain ⟨q, hq, rfl⟩ := ho
        rw [List.getElem?_drop] at hq
        refine .inr ⟨_, q, hq, rfl, ?_, .inr ⟨Nat.le_add_right _ _, by omega⟩⟩
        have := hbp ex (σ.b.length + (p - mem.length))
        unfold renB at this
        rw [List.getElem?_eq_none (show σ.b.length ≤ σ.b.length + (p - mem.length) by omega)] at this
        simp only at this
        rw [← this]
        congr 1
        omega
    -- a block of the call's own that is no kept one
    have mineOf : ∀ (i : Nat) (q : AObj) (b : Ent), m[i]? = some q → q.mine = true → (bp ++ ex)[i]? = some b → ¬ S' b.blk := fun i q b h1 h2 h3 => hM'.own i q b h1 h2 h3
    have occOld : ∀ (i : Nat) (q : AObj) (j : Nat), m[i]? = some q → Occ (ρ.sig σ) q → σ.b[i]? = some j → ∃ o, mem[j]? = some o ∧ Occ ρ o := fun i q j h1 h2 h3 => by
      have hi : i < pat.mem.length := by rw [← hbl]; exact (List.getElem?_eq_some_iff.1 h3).1
      obtain ⟨o, ho⟩ : ∃ o, pat.mem[i]? = some o := ⟨_, List.getElem?_eq_getElem hi⟩
      refine ⟨_, hmem i j o ho h3, (Occ.subR σ _ _).2 ?_⟩
      rcases hold i o q ho h1 with ⟨n, c, row, ty, rfl, rfl⟩ | ⟨c, ty, own, g, rfl⟩
      · exact h2
      · trivial
    have kept : ∀ (p : Nat) (o : AObj) (b : Ent), mem[p]? = some o → Occ ρ o → (∀ d : Nat, σ.b[d]? ≠ some p) → bs[p]? = some b → S' b.blk := fun p o b h1 h2 h3 h4 => by
      refine ⟨hlt p o b h1 h2 h4, fun i q b1 h5 h6 h7 h8 => ?_⟩
      obtain ⟨j, h9, h10⟩ := hblk' i b1 h7
      exact hm.apart j p _ o b1 b (fun e => h3 i (e ▸ h9)) (hmem i j q h5 h9) h1 (by rw [mine_subR]; exact h6) h2 h10 h4 h8
    refine ⟨?_, fun p o ho => ?_, fun p o b ho hmi hb hS => ?_, fun p q o o' b b' hpq ho ho' hmi hoc hb hb' => ?_, ?_⟩
    · simp only [placed, List.length_append, List.length_map, List.length_zipIdx, List.length_drop]; omega
    · rcases place p o ho with ⟨h1, h2, h3⟩ | ⟨i, q, h1, rfl, h3, h4⟩
      · obtain ⟨b, hb, hr⟩ := hm.rel p o h1
        exact ⟨b, by rw [h3]; exact hb, (hr.same fun hoc => hM'.keep.block _ (kept p o b h1 hoc h2 hb)).mono ex⟩
      · obtain ⟨b, hb, hr⟩ := hM'.rel i q h1
        exact ⟨b, by rw [h3]; exact hb, (ORel.subR σ mem.length (hbp ex)).2 hr⟩
    · rcases place p o ho with ⟨h1, h2, h3⟩ | ⟨i, q, h1, rfl, h3, h4⟩
      · exact hm.own p o b h1 hmi (by rw [← h3]; exact hb) hS
      · rw [mine_subR] at hmi
        exact mineOf i q b h1 hmi (by rw [← h3]; exact hb) (hSS _ hS)
    · rcases place p o ho with ⟨h1, h2, h3⟩ | ⟨i, x, h1, rfl, h3, h4⟩ <;> rcases place q o' ho' with ⟨h1', h2', h3'⟩ | ⟨i', x', h1', rfl, h3', h4'⟩
      · exact hm.apart p q o o' b b' hpq h1 h1' hmi hoc (by rw [← h3]; exact hb) (by rw [← h3']; exact hb')
      · -- an old one of the caller's, and one of the call
        have hbp' : bs[p]? = some b := by rw [← h3]; exact hb
        have hbx : (bp ++ ex)[i']? = some b' := by rw [← h3']; exact hb'
        have hocx : Occ (ρ.sig σ) x' := (Occ.subR σ _ _).1 hoc
        rcases h4' with h4' | ⟨h4', _⟩
        · obtain ⟨o2, ho2, hoc2⟩ := occOld i' x' q h1' hocx h4'
          have hi' : i' < bp.length := by simp [bp]; exact (List.getElem?_eq_some_iff.1 h4').1
          rw [List.getElem?_append_left hi'] at hbx
          obtain ⟨j, hj, hbj⟩ := hblk' i' b' hbx
          rw [h4'] at hj; cases hj
          exact hm.apart p q o o2 b b' hpq h1 ho2 hmi hoc2 hbp' hbj
        · rcases hnew i' x' (by omega) h1' with hmx | rfl
          · intro e
            exact mineOf i' x' b' h1' hmx hbx (e ▸ kept p o b h1 (Occ.mine hmi) h2 hbp')
          · exact hocx.elim
      · rw [mine_subR] at hmi
        have hbx : (bp ++ ex)[i]? = some b := by rw [← h3]; exact hb
        intro e
        exact mineOf i x b h1 hmi hbx (e ▸ kept q o' b' h1' hoc h2' (by rw [← h3']; exact hb'))
      · rw [mine_subR] at hmi
        refine hM'.apart i i' x x' b b' (fun e => ?_) h1 h1' hmi ((Occ.subR σ _ _).1 hoc) (by rw [← h3]; exact hb) (by rw [← h3']; exact hb')
        subst e
        rcases h4 with h4 | ⟨h4, h5⟩ <;> rcases h4' with h4' | ⟨h4', h5'⟩
        · rw [h4] at h4'; cases h4'; exact hpq rfl
        · rw [List.getElem?_eq_none h4'] at h4; cases h4
        · rw [List.getElem?_eq_none h4] at h4'; cases h4'
        · exact hpq (by omega)
    · have hk := hM'.keep
      exact ⟨hk.os.trans hm.keep.os, hk.tape.trans hm.keep.tape, hk.output.trans hm.keep.output, Nat.le_trans hm.keep.size hk.size, fun x hx => (hk.block x (hSS x hx)).trans (hm.keep.block x hx), hm.keep.old⟩
  · cases hi

/-- A tree without loops, as a contract. -/
def Tree.toOut : Tree → Out
  | .ite c a b => .ite c a.toOut b.toOut
  | .need c a => .need c a.toOut
  | .leaf v m => .done v m
  | _ => .fail 22
theorem pick_toOut {v : AV} {m : List AObj} : ∀ {t : Tree}, t.toOut.pick ρ = some (v, m) → t.holds (fun _ _ => True) (fun _ v' m' => v' = v ∧ m' = m) ρ := by
  intro t
  induction t with
  | ite c a b iha ihb =>
    intro h
    simp only [Tree.toOut, Out.pick] at h
    refine ⟨fun hc => ?_, fun hc => ?_⟩
    · rw [if_pos hc] at h; exact iha h
    · rw [if_neg (by rw [hc]; simp)] at h; exact ihb h
  | need c a iha =>
    intro h
    simp only [Tree.toOut, Out.pick] at h
    split at h
    · rename_i hc; exact ⟨hc, iha h⟩
    · cases h
  | leaf v' m' => intro h; cases h; exact ⟨rfl, rfl⟩
  | both _ _ => intro h; cases h
  | fail _ => intro h; cases h
  | loop _ _ _ => intro h; cases h
  | again _ _ => intro h; cases h
/-- What is known of the letters. -/
def needs : List (SE × Bool) → Out → Out
  | [], o => o
  | (c, true) :: r, o => .need c (needs r o)
  | (c, false) :: r, o => .need (.not c) (needs r o)
theorem pick_needs {v : AV} {m : List AObj} {o : Out} : ∀ {pc : List (SE × Bool)}, (needs pc o).pick ρ = some (v, m) → (∀ p ∈ pc, evB ρ p.1 = p.2) ∧ o.pick ρ = some (v, m)
  | [], h => ⟨(fun _ h => by cases h), h⟩
  | (c, true) :: r, h => by
    simp only [needs, Out.pick] at h
    split at h
    · rename_i hc
      obtain ⟨h1, h2⟩ := pick_needs h
      exact ⟨fun p hp => (List.mem_cons.1 hp).elim (fun e => by rw [e]; exact hc) (h1 p), h2⟩
    · cases h
  | (c, false) :: r, h => by
    simp only [needs, Out.pick] at h
    split at h
    · rename_i hc
      obtain ⟨h1, h2⟩ := pick_needs h
      rw [ev_not] at hc
      exact ⟨fun p hp => (List.mem_cons.1 hp).elim (fun e => by rw [e]; exact hc) (h1 p), h2⟩
    · cases h

/-! ### what nobody names any more is left out -/
def AV.refs : AV → List Nat
  | .ptr id _ => [id]
  | .sptr id _ _ _ => [id]
  | .slice id _ _ _ => [id]
  | .arg id => [id]
  | .mapv id => [id]
  | .row id _ _ _ => [id]
  | .fn _ c => c.refs
  | .fnx _ c => c.refs
  | .iface _ v => v.refs
  | .agg l => l.refs
  | .tuple l => l.refs
  | .cons a b => a.refs ++ b.refs
  | _ => []
def refsO : AObj → List Nat
  | .cells c _ _ _ => c.flatMap AV.refs
  | .mp _ vs => vs.flatMap AV.refs
  | _ => []
def AV.ren (f : Nat → Nat) : AV → AV
  | .ptr id off => .ptr (f id) off
  | .sptr id i s o => .sptr (f id) i s o
  | .slice id o l c => .slice (f id) o l c
  | .arg id => .arg (f id)
  | .mapv id => .mapv (f id)
  | .row id o l s => .row (f id) o l s
  | .fn g c => .fn g (c.ren f)
  | .fnx g c => .fnx g (c.ren f)
  | .iface t v => .iface t (v.ren f)
  | .agg l => .agg (l.ren f)
  | .tuple l => .tuple (l.ren f)
  | .cons a b => .cons (a.ren f) (b.ren f)
  | v => v
mutual
theorem dv_ren {bs bp : List Ent} (f : Nat → Nat) : ∀ a : AV, (∀ i ∈ a.refs, bp[f i]? = bs[i]?) → dv bp ρ (a.ren f) = dv bs ρ a
  | .ptr id off, h => by simp only [AV.ren, dv, h id (by simp [AV.refs])]
  | .sptr id i s o, h => by simp only [AV.ren, dv, h id (by simp [AV.refs])]
  | .slice id o l c, h => by simp only [AV.ren, dv, h id (by simp [AV.refs])]
  | .arg id, h => by simp only [AV.ren, dv, h id (by simp [AV.refs])]
  | .mapv id, h => by simp only [AV.ren, dv, h id (by simp [AV.refs])]
  | .row id o l c, h => by simp only [AV.ren, dv, h id (by simp [AV.refs])]
  | .fn g c, h => by simp only [AV.ren, dv, dvs_ren f c h]
  | .fnx g c, h => by simp only [AV.ren, dv, dvs_ren f c h]
  | .iface t v, h => by simp only [AV.ren, dv, dv_ren f v h]
  | .agg l, h => by simp only [AV.ren, dv, dvs_ren f l h]
  | .tuple l, h => by simp only [AV.ren, dv, dvs_ren f l h]
  | .cons a b, _ => rfl
  | .int _ _, _ | .bool _, _ | .bstr _, _ | .xslice _ _ _ _, _ | .str _, _ | .nilptr, _ | .gptr _, _ | .nilslice, _ | .nilFunc, _ | .nilIface, _ | .nil, _ => rfl
theorem dvs_ren {bs bp : List Ent} (f : Nat → Nat) : ∀ a : AV, (∀ i ∈ a.refs, bp[f i]? = bs[i]?) → dvs bp ρ (a.ren f) = dvs bs ρ a
  | .cons a b, h => by
    simp only [AV.refs, List.mem_append] at h
    simp only [AV.ren, dvs, dv_ren f a (fun i hi => h i (.inl hi)), dvs_ren f b (fun i hi => h i (.inr hi))]
  | .int _ _, _ | .bool _, _ | .bstr _, _ | .xslice _ _ _ _, _ | .str _, _ | .nilptr, _ | .gptr _, _ | .nilslice, _ | .nilFunc, _ | .nilIface, _ | .nil, _
  | .ptr _ _, _ | .sptr _ _ _ _, _ | .slice _ _ _ _, _ | .arg _, _ | .mapv _, _ | .row _ _ _ _, _ | .fn _ _, _ | .fnx _ _, _ | .iface _ _, _ | .agg _, _ | .tuple _, _ => rfl
end
theorem dvl_ren {bs bp : List Ent} (f : Nat → Nat) : ∀ l : List AV, (∀ i ∈ l.flatMap AV.refs, bp[f i]? = bs[i]?) → dvl bp ρ (l.map (AV.ren f)) = dvl bs ρ l
  | [], _ => rfl
  | a :: l, h => by
    simp only [List.flatMap_cons, List.mem_append] at h
    simp only [List.map_cons, dvl, dv_ren f a (fun i hi => h i (.inl hi)), dvl_ren f l (fun i hi => h i (.inr hi))]
def AObj.ren (f : Nat → Nat) : AObj → AObj
  | .cells c ty own g => .cells (c.map (AV.ren f)) ty own g
  | .mp ks vs => .mp ks (vs.map (AV.ren f))
  | o => o
def reach (mem : List AObj) : Nat → List Nat → List Nat → List Nat
  | 0, _, seen => seen
  | _ + 1, [], seen => seen
  | n + 1, i :: r, seen => if seen.contains i then reach mem n r seen else reach mem n (refsO (mem.getD i .dead) ++ r) (i :: seen)
/-- The places that stay, in order; of the first k all do. -/
def keeps (mem : List AObj) (k : Nat) (v : AV) : List Nat :=
  let seen := reach mem 10000 (v.refs ++ (mem.take k).flatMap refsO) []
  (List.range mem.length).filter fun i => Nat.blt i k || seen.contains i
def backI (ks : List Nat) (i : Nat) : Nat := (findB i ks 0).getD 0
def gcAt (ks : List Nat) (mem : List AObj) : List AObj := ks.map fun i => (mem.getD i .dead).ren (backI ks)
def gcOk (ks : List Nat) (mem : List AObj) (v : AV) (k : Nat) : Bool :=
  v.refs.all ks.contains && (ks.all fun i => Nat.blt i mem.length && (refsO (mem.getD i .dead)).all ks.contains) && nodupB ks && (ks.take k == List.range k)
def gcLeaf (k : Nat) (v : AV) (mem : List AObj) : Tree :=
  let ks := keeps mem k v
  if gcOk ks mem v k = true then .leaf (v.ren (backI ks)) (gcAt ks mem) else .leaf v mem

theorem back_get {ks : List Nat} (i : Nat) (h : ks.contains i = true) : ks[backI ks i]? = some i := by
  unfold backI
  cases hf : findB i ks 0 with
  | none =>
    obtain ⟨d, hd⟩ := List.mem_iff_getElem?.1 (by simpa using h)
    exact absurd hd (findB_none hf d)
  | some j =>
    obtain ⟨d, h1, h2⟩ := findB_some hf
    rw [Nat.zero_add] at h1; subst h1
    exact h2
theorem gc_sound {k : Nat} {ks : List Nat} {v : AV} {mem : List AObj} {z : Value} (hg : gcOk ks mem v k = true) (hz : dv bs ρ v = some z) (hm : RelM bs ρ S w0 mem w) (bs0 : List Ent) (ex : List Ent) (hb : bs = bs0 ++ ex) (hk : bs0.length = k) :
    ∃ ex', dv (bs0 ++ ex') ρ (v.ren (backI ks)) = some z ∧ RelM (bs0 ++ ex') ρ S w0 (gcAt ks mem) w := by
  simp only [gcOk, Bool.and_eq_true, beq_iff_eq] at hg
  obtain ⟨⟨⟨h1, h2⟩, h3⟩, h4⟩ := hg
  have hnd := nodupB_spec h3
  have hlt : ∀ i ∈ ks, i < bs.length ∧ ∀ r ∈ refsO (mem.getD i .dead), ks.contains r = true := fun i hi => by
    have := List.all_eq_true.1 h2 i hi
    simp only [Bool.and_eq_true, Nat.blt_eq] at this
    exact ⟨by rw [hm.len]; exact this.1, fun r hr => List.all_eq_true.1 this.2 r hr⟩
  let bp : List Ent := ks.map fun i => bs.getD i ⟨0, 0, 0, none, 0⟩
  have hbp : ∀ j i, ks[j]? = some i → bp[j]? = bs[i]? := fun j i hj => by
    have := (hlt i (List.mem_of_getElem? hj)).1
    show (ks.map fun i => bs.getD i ⟨0, 0, 0, none, 0⟩)[j]? = _
    rw [List.getElem?_map, hj, Option.map_some, List.getD_eq_getElem?_getD, List.getElem?_eq_getElem this]
    rfl
  have hback : ∀ i, ks.contains i = true → bp[backI ks i]? = bs[i]? := fun i hi => hbp _ i (back_get i hi)
  have hbp0 : bp.take k = bs0 := by
    have : bp.take k = (ks.take k).map fun i => bs.getD i ⟨0, 0, 0, none, 0⟩ := by simp [bp, List.map_take]
    rw [this, h4]
    apply List.ext_getElem?
    intro i
    rw [List.getElem?_map]
    by_cases hi : i < k
    · rw [List.getElem?_range hi]
      simp only [Option.map_some]
      rw [hb, List.getD_eq_getElem?_getD, List.getElem?_append_left (by omega), List.getElem?_eq_getElem (by omega)]
      rfl
    · rw [List.getElem?_eq_none (by simp; omega), List.getElem?_eq_none (by omega)]
      rfl
  refine ⟨bp.drop k, ?_, ?_⟩
  · rw [← hbp0, List.take_append_drop, dv_ren (bs := bs) (backI ks) v (fun i hi => hback i (List.all_eq_true.1 h1 i hi))]
    exact hz
  · rw [← hbp0, List.take_append_drop]
    have get : ∀ (j : Nat) (o : AObj), (gcAt ks mem)[j]? = some o → ∃ i o', ks[j]? = some i ∧ mem[i]? = some o' ∧ o = o'.ren (backI ks) := fun j o ho => by
      simp only [gcAt, List.getElem?_map, Option.map_eq_some_iff] at ho
      obtain ⟨i, hi, rfl⟩ := ho
      have := (hlt i (List.mem_of_getElem? hi)).1
      rw [hm.len] at this
      exact ⟨i, mem[i], hi, List.getElem?_eq_getElem this, by rw [List.getD_eq_getElem?_getD, List.getElem?_eq_getElem this]; rfl⟩
    have mine : ∀ o : AObj, (o.ren (backI ks)).mine = o.mine := fun o => by cases o <;> rfl
    have occ : ∀ o : AObj, Occ ρ (o.ren (backI ks)) → Occ ρ o := fun o h => by cases o <;> exact h
    refine ⟨by simp [bp, gcAt], fun j o ho => ?_, fun j o b ho hmi hb => ?_, fun j j' o o' b b' hjj ho ho' hmi hoc hb hb' => ?_, hm.keep⟩
    · obtain ⟨i, o', hi, ho', rfl⟩ := get j o ho
      obtain ⟨b, hb, hr⟩ := hm.rel i o' ho'
      refine ⟨b, by rw [hbp j i hi]; exact hb, ?_⟩
      have hrefs := (hlt i (List.mem_of_getElem? hi)).2
      rw [List.getD_eq_getElem?_getD, ho', Option.getD_some] at hrefs
      cases o' with
      | cells c ty own g =>
        obtain ⟨vs, tail, e1, e2⟩ := hr
        exact ⟨vs, tail, by rw [dvl_ren (bs := bs) (backI ks) c (fun r hr => hback r (hrefs r hr))]; exact e1, e2⟩
      | sym n c row ty => exact hr
      | mp kk vs =>
        obtain ⟨us, es, clock, e1, e2⟩ := hr
        exact ⟨us, es, clock, by rw [dvl_ren (bs := bs) (backI ks) vs (fun r hr => hback r (hrefs r hr))]; exact e1, e2⟩
      | dead => trivial
    · obtain ⟨i, o', hi, ho', rfl⟩ := get j o ho
      exact hm.own i o' b ho' (by rw [← mine]; exact hmi) (by rw [← hbp j i hi]; exact hb)
    · obtain ⟨i, q, hi, hq, rfl⟩ := get j o ho
      obtain ⟨i', q', hi', hq', rfl⟩ := get j' o' ho'
      exact hm.apart i i' q q' b b' (fun e => hjj (by subst e; exact hnd j j' i hi hi')) hq hq' (by rw [← mine]; exact hmi) (occ _ hoc) (by rw [← hbp j i hi]; exact hb) (by rw [← hbp j' i' hi']; exact hb')

/-- The tree of a call that is to be a contract: all of the memory behind it is told. -/
def callS (P : Program) (cfg : Cfg) (fuel f : Nat) (args : List AV) (mem : List AObj) (pc : List (SE × Bool)) : Tree :=
  match P.funcs[f]? with
  | none => .fail 100
  | some fn => match fn.body with
    | none => .fail 101
    | some c => run P cfg fuel none (.code c) { slots := args.map some ++ List.replicate (fn.ntmps - args.length) (some (.tuple .nil)), mem, pc } fun ex st =>
      match ex with
      | .exit _ => .fail 102
      | _ => match resultA P fn st with
        | some v => gcLeaf mem.length v st.mem
        | none => .fail 103

theorem sum_run {cfg : Cfg} {F : Nat → List Int → Int} (hcfg : ∀ G : Nat → List Int → Int, (∀ j, 100 ≤ j → j < 200 → G j = F j) → CfgOk P cfg G (fun _ _ => True)) {fuel f : Nat} {pat : Pat} {pc : List (SE × Bool)} {t : Tree}
    (hT : callS P cfg fuel f pat.args pat.mem pc = t) (ho : pat.out = needs pc t.toOut) : SumOk P F f pat := by
  intro S w0 bs ρ w vs v mem' hF hvs hm hp
  rw [ho] at hp
  obtain ⟨hpc, hp⟩ := pick_needs hp
  have hT := hT ▸ pick_toOut hp
  have hcfg := hcfg ρ.f hF
  unfold callS at hT
  split at hT
  · exact hT.elim
  · rename_i fn hfn
    split at hT
    · exact hT.elim
    · rename_i c hc
      have hlen := dvl_length hvs
      refine calls_of_wp (R := fun e w' => ∃ ex z, e = .returned z ∧ dv (bs ++ ex) ρ v = some z ∧ RelM (bs ++ ex) ρ S w0 mem' w') hfn hc ?_
      refine run_sound (S := S) (w0 := w0) hcfg trivial fuel none (.code c) _ _ bs ρ _ w _ (fun _ => True) (fun _ => True) ?_ rfl hT ?_ ?_ (fun _ _ _ _ _ _ _ h => by cases h)
      · refine ⟨by simp [hlen], ?_, rfl, hm, hpc⟩
        have := slots_map pat.args vs (fn.ntmps - pat.args.length) hvs
        simpa [hlen] using this
      · intro ρ' ex bs' st' a' w' hx hf hR' hT'
        obtain ⟨rfl, e1, rfl⟩ := hx
        have fin : (match resultA P fn st' with | some v => gcLeaf pat.mem.length v st'.mem | none => .fail 103).holds (fun _ _ => True) (fun _ v' m' => v' = v ∧ m' = mem') ρ' →
            a'.defers = [] ∧ ∃ y, (results fn a'.tmps).run P w' = .ok y w' ∧ ∃ ex z, Ending.returned y = .returned z ∧ dv (bs ++ ex) ρ' v = some z ∧ RelM (bs ++ ex) ρ' S w0 mem' w' := by
          intro hT'
          split at hT'
          · rename_i v1 hv
            obtain ⟨z, hz, hrun⟩ := resultA_sound (P := P) hR' hv
            unfold gcLeaf at hT'
            simp only at hT'
            split at hT'
            · rename_i hg
              obtain ⟨e2, e3⟩ := hT'
              obtain ⟨ex', h1, h2⟩ := gc_sound hg hz hR'.mem bs e1 rfl hm.len
              exact ⟨hR'.defers, z, hrun, ex', z, rfl, by rw [← e2]; exact h1, by rw [← e3]; exact h2⟩
            · obtain ⟨e2, e3⟩ := hT'
              exact ⟨hR'.defers, z, hrun, e1, z, rfl, by rw [← e2]; exact hz, by rw [← e3]; exact hR'.mem⟩
          · exact hT'.elim
        cases ex with
        | normal => exact fin hT'
        | ret => exact fin hT'
        | exit id => exact hT'.elim
      · rintro ch a' w' ⟨_, ex, z, h, _⟩
        cases h

/-! ### a contract in other letters -/
def OEq (ρ : Env) : AObj → AObj → Prop
  | .cells c ty own g, .cells c' ty' own' g' => ty = ty' ∧ own = own' ∧ g = g' ∧ ∀ bs, dvl bs ρ c = dvl bs ρ c'
  | o, o' => o = o'
def MEq (ρ : Env) (m m' : List AObj) : Prop := m.length = m'.length ∧ ∀ (i : Nat) o o', m[i]? = some o → m'[i]? = some o' → OEq ρ o o'
theorem MEq.refl (ρ : Env) (m : List AObj) : MEq ρ m m := ⟨rfl, fun i o o' h h' => by
  rw [h] at h'; cases h'
  cases o <;> first | exact ⟨rfl, rfl, rfl, fun _ => rfl⟩ | rfl⟩
theorem OEq.rel {b : Ent} {o o' : AObj} (h : OEq ρ o o') (hr : ORel bs ρ w b o) : ORel bs ρ w b o' := by
  cases o with
  | cells c ty own g => cases o' with
    | cells c' ty' own' g' =>
      obtain ⟨rfl, rfl, rfl, h⟩ := h
      obtain ⟨vs, tail, h1, h2⟩ := hr
      exact ⟨vs, tail, by rw [← h]; exact h1, h2⟩
    | sym => cases h
    | mp => cases h
    | dead => cases h
  | mp => cases o' <;> first | (cases h; done) | (cases h; exact hr)
  | sym => cases o' <;> first | (cases h; done) | (cases h; exact hr)
  | dead => cases o' <;> first | (cases h; done) | (cases h; exact hr)
theorem OEq.mine {o o' : AObj} (h : OEq ρ o o') : o'.mine = o.mine := by
  cases o <;> cases o' <;> first | (obtain ⟨_, h1, _⟩ := h; exact h1.symm) | (cases h; done) | (cases h; rfl)
theorem OEq.occ {o o' : AObj} (h : OEq ρ o o') : Occ ρ o' → Occ ρ o := by
  cases o <;> cases o' <;> first | exact fun _ => trivial | (cases h; done) | (cases h; exact id)
theorem RelM.eq {m m' : List AObj} (h : MEq ρ m m') (hm : RelM bs ρ S w0 m w) : RelM bs ρ S w0 m' w := by
  obtain ⟨hl, he⟩ := h
  have get : ∀ (i : Nat) (o' : AObj), m'[i]? = some o' → ∃ o, m[i]? = some o ∧ OEq ρ o o' := fun i o' ho' => by
    have hi : i < m.length := by rw [hl]; exact (List.getElem?_eq_some_iff.1 ho').1
    exact ⟨m[i], List.getElem?_eq_getElem hi, he i _ _ (List.getElem?_eq_getElem hi) ho'⟩
  refine ⟨by rw [hm.len, hl], fun i o' ho' => ?_, fun i o' b ho' hmi hb => ?_, fun i j o o' b b' hij ho ho' hmi hoc hb hb' => ?_, hm.keep⟩
  · obtain ⟨o, ho, h⟩ := get i o' ho'
    obtain ⟨b, hb, hr⟩ := hm.rel i o ho
    exact ⟨b, hb, h.rel hr⟩
  · obtain ⟨o, ho, h⟩ := get i o' ho'
    exact hm.own i o b ho (by rw [← h.mine]; exact hmi) hb
  · obtain ⟨q, hq, h⟩ := get i o ho
    obtain ⟨q', hq', h'⟩ := get j o' ho'
    exact hm.apart i j q q' b b' hij hq hq' (by rw [← h.mine]; exact hmi) (h'.occ hoc) hb hb'
theorem sum_refine {F : Nat → List Int → Int} {f : FuncId} {pat : Pat} {out' : Out} (h : SumOk P F f pat)
    (he : ∀ (ρ : Env) (bs : List Ent) (w : World) (vs : List Value) (v : AV) (m : List AObj), (∀ j, 100 ≤ j → j < 200 → ρ.f j = F j) → dvl bs ρ pat.args = some vs → MRel bs ρ pat.mem w → out'.pick ρ = some (v, m) →
      ∃ v' m', pat.out.pick ρ = some (v', m') ∧ (∀ bs, dv bs ρ v' = dv bs ρ v) ∧ MEq ρ m' m) : SumOk P F f ⟨pat.args, pat.mem, out'⟩ := by
  intro S w0 bs ρ w vs v m hF hvs hm hp
  obtain ⟨v', m', h1, h2, h3⟩ := he ρ bs w vs v m hF hvs hm.rel hp
  refine (h S w0 bs ρ w vs v' m' hF hvs hm h1).mono ?_
  rintro e w' ⟨ex, z, rfl, hz, hM⟩
  exact ⟨ex, z, rfl, by rw [← h2]; exact hz, hM.eq h3⟩
theorem dvl_ints {k : IntKind} {c c' : List SE} (h : c.map (den ρ) = c'.map (den ρ)) : dvl bs ρ (c.map (AV.int k)) = dvl bs ρ (c'.map (AV.int k)) := by
  induction c generalizing c' with
  | nil => cases c' with
    | nil => rfl
    | cons _ _ => simp at h
  | cons a r ih =>
    cases c' with
    | nil => simp at h
    | cons b s =>
      simp only [List.map_cons, List.cons.injEq] at h
      simp only [List.map_cons, dvl, dv, h.1, ih h.2]

theorem dvl_in {l : List AV} {vs : List Value} (h : dvl bs ρ l = some vs) {i : Nat} {k : IntKind} {e : SE} (hi : l[i]? = some (.int k e)) : inR k (den ρ e) = true := by
  obtain ⟨v, _, hv⟩ := dvl_get h hi
  exact (dv_int hv).2
theorem agg_in {l r : List AV} {vs : List Value} (h : dvl bs ρ (.agg (ofList l) :: r) = some vs) {i : Nat} {k : IntKind} {e : SE} (hi : l[i]? = some (.int k e)) : inR k (den ρ e) = true := by
  simp only [dvl, Option.bind_eq_some_iff] at h
  obtain ⟨x, hx, _⟩ := h
  simp only [dv, dvs_ofList, Option.map_eq_some_iff] at hx
  obtain ⟨us, hus, _⟩ := hx
  exact dvl_in hus hi
theorem dv_c {k : IntKind} {a b : SE} (h : den ρ a = den ρ b) : ∀ bs, dv bs ρ (.int k a) = dv bs ρ (.int k b) := fun bs => by simp only [dv, h]
theorem dvl_c {a b : AV} {l m : List AV} (h : ∀ bs, dv bs ρ a = dv bs ρ b) (h' : ∀ bs, dvl bs ρ l = dvl bs ρ m) : ∀ bs, dvl bs ρ (a :: l) = dvl bs ρ (b :: m) := fun bs => by simp only [dvl, h, h']
theorem dvl_e : ∀ bs, dvl bs ρ [] = dvl bs ρ [] := fun _ => rfl
/-- One block alone. -/
theorem meq_one {c c' : List AV} {ty : TypeId} {own : Bool} {g : Option Nat} (h : ∀ bs, dvl bs ρ c = dvl bs ρ c') : MEq ρ [.cells c ty own g] [.cells c' ty own g] := ⟨rfl, fun i o o' ho ho' => by
  cases i with
  | zero => cases ho; cases ho'; exact ⟨rfl, rfl, rfl, h⟩
  | succ i => simp at ho⟩

theorem dvs_c {a b l m : AV} (h : ∀ bs, dv bs ρ a = dv bs ρ b) (h' : ∀ bs, dvs bs ρ l = dvs bs ρ m) : ∀ bs, dvs bs ρ (.cons a l) = dvs bs ρ (.cons b m) := fun bs => by simp only [dvs, h, h']
theorem agg_c {l m : AV} (h : ∀ bs, dvs bs ρ l = dvs bs ρ m) : ∀ bs, dv bs ρ (.agg l) = dv bs ρ (.agg m) := fun bs => by simp only [dv, h]
theorem tuple_c {l m : AV} (h : ∀ bs, dvs bs ρ l = dvs bs ρ m) : ∀ bs, dv bs ρ (.tuple l) = dv bs ρ (.tuple m) := fun bs => by simp only [dv, h]
/-- Two contracts that ask the same, and come to the same. -/
def Out.Like (ρ : Env) : Out → Out → Prop
  | .ite c a b, .ite c' a' b' => c = c' ∧ (evB ρ c = true → a.Like ρ a') ∧ (evB ρ c = false → b.Like ρ b')
  | .ite c a b, .done v m => (evB ρ c = true → a.Like ρ (.done v m)) ∧ (evB ρ c = false → b.Like ρ (.done v m))
  | .need c a, o' => evB ρ c = true ∧ a.Like ρ o'
  | .done v m, .done v' m' => (∀ bs, dv bs ρ v = dv bs ρ v') ∧ MEq ρ m m'
  | _, .fail _ => True
  | _, _ => False
theorem like_pick : ∀ {o o' : Out} {v : AV} {m : List AObj}, o.Like ρ o' → o'.pick ρ = some (v, m) → ∃ v' m', o.pick ρ = some (v', m') ∧ (∀ bs, dv bs ρ v' = dv bs ρ v) ∧ MEq ρ m' m := by
  intro o
  induction o with
  | ite c a b iha ihb =>
    intro o' v m h hp
    cases o' with
    | ite c' a' b' =>
      obtain ⟨rfl, h1, h2⟩ := h
      simp only [Out.pick] at hp ⊢
      cases hc : evB ρ c with
      | true => rw [hc] at hp; exact iha (h1 hc) hp
      | false => rw [hc] at hp; exact ihb (h2 hc) hp
    | need _ _ => cases h
    | done v1 m1 =>
      obtain ⟨h1, h2⟩ := h
      simp only [Out.pick]
      cases hc : evB ρ c with
      | true => exact iha (h1 hc) hp
      | false => exact ihb (h2 hc) hp
    | fail _ => cases hp
  | need c a iha =>
    intro o' v m h hp
    obtain ⟨h1, h2⟩ := h
    simp only [Out.pick, h1, if_true]
    exact iha h2 hp
  | done v0 m0 =>
    intro o' v m h hp
    cases o' with
    | done v1 m1 => cases hp; exact ⟨v0, m0, rfl, h.1, h.2⟩
    | ite _ _ _ => cases h
    | need _ _ => cases h
    | fail _ => cases hp
  | fail n =>
    intro o' v m h hp
    cases o' with
    | fail _ => cases hp
    | ite _ _ _ => cases h
    | need _ _ => cases h
    | done _ _ => cases h
/-- The members of an argument's row are numbers of their kind. -/
theorem sym_in {mem : List AObj} (hm : MRel bs ρ mem w) {i : Nat} {n cap : SE} {row : List Col} {ty : TypeId} (ho : mem[i]? = some (.sym n cap row ty)) {j : Nat} {k : IntKind} {g : Nat} (hj : row[j]? = some (.int k g)) (x : Int) (h0 : 0 ≤ x) (h1 : x < den ρ cap) :
    inR k (ρ.f g [x]) = true := by
  obtain ⟨b, _, _, _, _, _, _, h⟩ := hm i _ ho
  obtain ⟨_, _, h⟩ := h (by omega)
  have := (h x.toNat j _ (by omega) hj).2
  have e : ((x.toNat : Nat) : Int) = x := by omega
  rw [e] at this
  exact this
theorem sym_len {mem : List AObj} (hm : MRel bs ρ mem w) {i : Nat} {n cap : SE} {row : List Col} {ty : TypeId} (ho : mem[i]? = some (.sym n cap row ty)) : 0 ≤ den ρ n ∧ den ρ n ≤ den ρ cap := by
  obtain ⟨b, _, _, _, h1, h2, _⟩ := hm i _ ho
  exact ⟨h1, h2⟩
/-- The contracts of a text, tried one after the other. -/
def sumsOf (l : List (FuncId × Pat)) (f : FuncId) (args : List AV) (mem : List AObj) : Option Out :=
  match l with
  | [] => none
  | (g, pat) :: r => if Nat.beq g f = true then match inst pat args mem with
      | some out => some out
      | none => sumsOf r f args mem
    else sumsOf r f args mem
theorem sumsOf_sound {F : Nat → List Int → Int} {l : List (FuncId × Pat)} (hl : ∀ p ∈ l, SumOk P F p.1 p.2) {f : FuncId} {args : List AV} {mem : List AObj} {out : Out} (h : sumsOf l f args mem = some out)
    {vs : List Value} {v : AV} {mem' : List AObj} (hF : ∀ j, 100 ≤ j → j < 200 → ρ.f j = F j) (hvs : dvl bs ρ args = some vs) (hm : RelM bs ρ S w0 mem w) (hp : out.pick ρ = some (v, mem')) : Comes P S w0 bs ρ f vs w v mem' := by
  induction l with
  | nil => cases h
  | cons p r ih =>
    obtain ⟨g, pat⟩ := p
    have ih := ih (fun q hq => hl q (List.mem_cons_of_mem _ hq))
    simp only [sumsOf] at h
    split at h
    · rename_i he
      have he := Nat.eq_of_beq_eq_true he
      subst he
      split at h
      · rename_i o ho
        cases h
        exact inst_sound (hl (g, pat) (List.mem_cons_self ..)) ho hF hvs hm hp
      · exact ih h
    · exact ih h
/-- Contracts by hand: a value, the memory as it was. -/
def CusOk (P : Program) (F : Nat → List Int → Int) (cus : FuncId → List AV → Option AV) : Prop :=
  ∀ (f : FuncId) (args : List AV) (v : AV), cus f args = some v → ∀ (bs : List Ent) (ρ : Env) (w : World) (vs : List Value), (∀ j, 100 ≤ j → j < 200 → ρ.f j = F j) → dvl bs ρ args = some vs →
    ∃ z, dv bs ρ v = some z ∧ Calls P f vs.toArray w fun e w' => e = .returned z ∧ RowKit.Below w.heap.size w w'
def sums2 (cus : FuncId → List AV → Option AV) (l : List (FuncId × Pat)) (f : FuncId) (args : List AV) (mem : List AObj) : Option Out :=
  match cus f args with
  | some v => some (.done v mem)
  | none => sumsOf l f args mem
theorem sums2_sound {F : Nat → List Int → Int} {cus : FuncId → List AV → Option AV} (hc : CusOk P F cus) {l : List (FuncId × Pat)} (hl : ∀ p ∈ l, SumOk P F p.1 p.2) {f : FuncId} {args : List AV} {mem : List AObj} {out : Out}
    (h : sums2 cus l f args mem = some out) {vs : List Value} {v : AV} {mem' : List AObj} (hF : ∀ j, 100 ≤ j → j < 200 → ρ.f j = F j) (hvs : dvl bs ρ args = some vs) (hm : RelM bs ρ S w0 mem w) (hp : out.pick ρ = some (v, mem')) : Comes P S w0 bs ρ f vs w v mem' := by
  unfold sums2 at h
  split at h
  · rename_i u hu
    cases h
    cases hp
    obtain ⟨z, hz, hcalls⟩ := hc f args v hu bs ρ w vs hF hvs
    refine hcalls.mono ?_
    rintro e w' ⟨rfl, hb⟩
    exact ⟨[], z, rfl, by rw [List.append_nil]; exact hz, by rw [List.append_nil]; exact hm.below hb⟩
  · exact sumsOf_sound hl h hF hvs hm hp
/-- What says a value of the call, and leaves the memory. -/
theorem comes_of_below {f : FuncId} {vs : List Value} {v : AV} {mem : List AObj} {z : Value} (hm : RelM bs ρ S w0 mem w) (hz : dv bs ρ v = some z) (h : Calls P f vs.toArray w fun e w' => e = .returned z ∧ RowKit.Below w.heap.size w w') :
    Comes P S w0 bs ρ f vs w v mem := by
  refine h.mono ?_
  rintro e w' ⟨rfl, hb⟩
  exact ⟨[], z, rfl, by rw [List.append_nil]; exact hz, by rw [List.append_nil]; exact hm.below hb⟩
end Go.SX
