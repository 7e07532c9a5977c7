/- Symbolic execution of the model's code, 3 of 3 (the parts of wip/sx2 joined by wip/sx2/merge3.py). No conditions. -/
import Derived.Test.YtnmmomopnaglbaaGreatDoorSX2
import GoSem.ClaimData
import Derived.RangeFuncRecord
import Derived.RangeFuncSeq
import Derived.LoopNIn
import Derived.RangeFuncLeaves
import Derived.Maps.RangeRun
/- Symbolic execution of the model's code, part 12: from a tree to a call. -/
namespace Go.SX
set_option linter.unusedSimpArgs false
set_option linter.unusedVariables false
variable {P : Program} {S : Nat → Prop} {w0 w : World} {bs : List Ent} {ρ : Env} {I : Nat → Env → Prop} {L : Env → AV → List AObj → Prop} {cfg : Cfg} {F : Nat → List Int → Int} {N : (Nat → Prop) → World → Prop}

/-- The tree of a call: of the memory behind it the first 'keep' blocks are told. -/
def callT (P : Program) (cfg : Cfg) (fuel keep f : Nat) (args : List AV) (mem : List AObj) (pc : List (SE × Bool)) : Tree :=
  match P.funcs[f]? with
  | none => .fail 100
  | some fn => match fn.body with
    | none => .fail 101
    | some c => runF P cfg fuel (some []) (.code c) { slots := args.map some ++ List.replicate (fn.ntmps - args.length) (some (.tuple .nil)), mem, pc } fun ex st =>
      match ex with
      | .exit _ => .fail 102
      | _ => match resultA P fn st with
        | some v => .leaf v (st.mem.take keep)
        | none => .fail 103

theorem calls_run (hcfg : CfgOk P cfg F N) (hN : N S w0) {fuel keep f : Nat} {args : List AV} {mem : List AObj} {pc : List (SE × Bool)} {vs : List Value} (hT : (callT P cfg fuel keep f args mem pc).holds I L ρ) (hρ : ρ.f = F)
    (hpc : ∀ p ∈ pc, evB ρ p.1 = p.2) (hvs : dvl bs ρ args = some vs) (hm : RelM bs ρ S w0 mem w) {R : Ending → World → Prop}
    (hL : ∀ (ρ' : Env) (bs' : List Ent) (v : AV) (m mem' : List AObj) (w' : World) (z : Value), ρ'.f = F → L ρ' v m → m = mem'.take keep → dv bs' ρ' v = some z → RelM bs' ρ' S w0 mem' w' → R (.returned z) w') :
    Calls P f vs.toArray w R := by
  unfold callT at hT
  simp only [runF_eq] at hT
  split at hT
  · exact hT.elim
  · rename_i fn hfn
    split at hT
    · exact hT.elim
    · rename_i c hc
      have hlen := dvl_length hvs
      refine (calls_of_wp (R := fun e w' => ∃ z, e = .returned z ∧ R e w') hfn hc ?_).mono fun e w' ⟨z, he, h⟩ => h
      refine run_sound (S := S) (w0 := w0) hcfg hN fuel [] (some []) (.code c) _ _ bs ρ _ w _ (fun _ => True) (fun _ => True) ?_ hρ hT ?_ ?_ (fun _ _ _ _ _ _ _ h => by cases h)
      · refine ⟨by simp [hlen], ?_, rfl, hm, hpc⟩
        have := slots_map args vs (fn.ntmps - args.length) hvs
        simpa [hlen] using this
      · intro ρ' ex bs' st' a' w' hx hf hR' hT'
        have fin : (match resultA P fn st' with | some v => Tree.leaf v (st'.mem.take keep) | none => .fail 103).holds I L ρ' →
            a'.defers = [] ∧ ∃ v, (results fn a'.tmps).run P w' = .ok v w' ∧ ∃ z, Ending.returned v = .returned z ∧ R (.returned v) w' := by
          intro hT'
          split at hT'
          · rename_i v hv
            obtain ⟨z, hz, hrun⟩ := resultA_sound (P := P) hR' hv
            exact ⟨hR'.defers, z, hrun, z, rfl, hL ρ' bs' v _ st'.mem w' z hf hT' rfl hz hR'.mem⟩
          · exact hT'.elim
        cases ex with
        | normal => exact fin hT'
        | ret => exact fin hT'
        | exit id => exact hT'.elim
      · rintro ch a' w' ⟨_, z, h, _⟩
        cases h

/-- What a law asks of its end. -/
def saysTrue (ρ : Env) (v : AV) (_ : List AObj) : Prop :=
  match v with
  | .bool e => evB ρ e = true
  | _ => False

/-- A law: its tree's ends all say true; no block of the start has turned. -/
theorem law_run (hcfg : CfgOk P cfg F N) {fuel f : Nat} {args : List AV} {mem : List AObj} {pc : List (SE × Bool)} {vs : List Value} {W : World} (hN : N (· < W.heap.size) W) (hT : (callT P cfg fuel 0 f args mem pc).holds I saysTrue ρ) (hρ : ρ.f = F)
    (hpc : ∀ p ∈ pc, evB ρ p.1 = p.2) (hvs : dvl bs ρ args = some vs) (hm : RelM bs ρ (· < W.heap.size) W mem W) :
    Calls P f vs.toArray W fun e w' => e = .returned (.bool true) ∧ RowKit.Below W.heap.size W w' := by
  refine calls_run hcfg hN hT hρ hpc hvs hm ?_
  rintro ρ' bs' v m mem' w' z hf hv _ hz hR
  unfold saysTrue at hv
  split at hv
  · cases hz
    rw [hv]
    exact ⟨rfl, hR.keep.os, hR.keep.tape, hR.keep.output, hR.keep.size, fun k hk => hR.keep.block k hk⟩
  · exact hv.elim

/-- The arguments' memory at a law's start: nothing of it is the call's own. -/
theorem RelM.foreign {mem : List AObj} {W : World} (hl : bs.length = mem.length) (hm : MRel bs ρ mem W) (hno : mem.all (fun o => !o.mine) = true) : RelM bs ρ (· < W.heap.size) W mem W := by
  have no : ∀ (i : Nat) o, mem[i]? = some o → o.mine = true → False := fun i o ho hmi => by
    have := List.all_eq_true.1 hno o (List.mem_of_getElem? ho)
    rw [hmi] at this
    cases this
  exact ⟨hl, hm, fun i o b ho hmi => (no i o ho hmi).elim, fun i j o o' b b' _ ho _ hmi => (no i o ho hmi).elim, ⟨rfl, rfl, rfl, Nat.le_refl _, fun _ _ => rfl, fun _ h => h⟩⟩

/-- What is known of an argument that is a row of numbers. -/
def IsRow (k : IntKind) (w : World) (a : Option Addr) (len cap : Nat) (zs : List Int) : Prop :=
  (a = none ∧ len = 0 ∧ cap = 0 ∧ zs = []) ∨
  ∃ x, a = some x ∧ len ≤ cap ∧ cap ≤ maxLen ∧ zs.length = cap ∧ (∀ i, i < zs.length → w.cell? (x.add i) = some (.int k (zs.getD i 0))) ∧ ∀ n ∈ zs, (Lit.int k n).wf = true
def entOf (a : Option Addr) (len cap : Nat) : Ent := { blk := (a.map (·.block)).getD 0, cap := cap, base := (a.map (·.off)).getD 0, addr := a, len := len }
theorem wf_inR {k : IntKind} {n : Int} (h : (Lit.int k n).wf = true) : inR k n = true := by
  unfold inR
  simpa [Lit.wf] using h
theorem orel_row {k : IntKind} {W : World} {a : Option Addr} {len cap : Nat} {zs : List Int} (h : IsRow k W a len cap zs) {n c : SE} {j : Nat} {ty : TypeId} (hn : den ρ n = len) (hc : den ρ c = cap)
    (hf : ∀ i : Nat, i < zs.length → ρ.f j [(i : Int)] = zs.getD i 0) : ORel bs ρ W (entOf a len cap) (.sym n c [.int k j] ty) := by
  have e1 : len = (den ρ n).toNat := by omega
  have e2 : cap = (den ρ c).toNat := by omega
  rcases h with ⟨rfl, rfl, rfl, rfl⟩ | ⟨x, rfl, hle, hmax, hz, hcell, hwf⟩
  · exact ⟨e1, e2, by omega, by omega, by omega, fun h => by omega⟩
  · refine ⟨e1, e2, by omega, by omega, by unfold maxLen at hmax; omega, fun h => ?_⟩
    have h0 := hcell 0 (by omega)
    have hx : x.add 0 = x := by simp [Addr.add]
    rw [hx] at h0
    have hspot : x.spot = none := by
      unfold World.cell? at h0
      split at h0
      · split at h0
        · cases h0
        · rename_i hs; simpa using hs
      · cases h0
    obtain ⟨b, o, s⟩ := x
    simp only at hspot
    subst hspot
    refine ⟨rfl, World.block_lt_of_cell? W _ h0, fun i q p hi hp => ?_⟩
    have hq : q = 0 := by
      have := (List.getElem?_eq_some_iff.1 hp).1
      simpa using this
    subst hq
    cases hp
    have h1 := hcell i (by omega)
    have e3 : (⟨b, o, none⟩ : Addr).add i = ⟨b, o + i, none⟩ := add_at b o i
    rw [e3] at h1
    show _ = some (Value.int k (ρ.f j [(i : Int)])) ∧ inR k (ρ.f j [(i : Int)]) = true
    rw [hf i (by omega)]
    refine ⟨by simpa [entOf] using h1, wf_inR (hwf _ ?_)⟩
    have hlt : i < zs.length := by omega
    rw [List.getD_eq_getElem?_getD, List.getElem?_eq_getElem hlt]
    exact List.getElem_mem hlt

/-- The letters of a law: its numbers, and its arguments' rows. -/
def mkEnv (F : Nat → List Int → Int) (vals : List Int) (rows : List (List Int)) : Env :=
  { v := fun i => vals.getD i 0, f := fun j l => if j < rows.length then (rows.getD j []).getD (l.headD 0).toNat 0 else F j l }
theorem mkEnv_f {F : Nat → List Int → Int} {vals : List Int} {rows : List (List Int)} {j : Nat} (h : rows.length ≤ j) : (mkEnv F vals rows).f j = F j := by
  funext l
  show (if j < rows.length then _ else F j l) = _
  rw [if_neg (by omega)]
theorem dvl_mk {a : AV} {l : List AV} {v : Value} {vs : List Value} (h : dv bs ρ a = some v) (h' : dvl bs ρ l = some vs) : dvl bs ρ (a :: l) = some (v :: vs) := by
  simp only [dvl, h, h', Option.bind_some, Option.map_some]
theorem dvl_none : dvl bs ρ [] = some [] := rfl
theorem dv_agg_mk {l : List AV} {vs : List Value} (h : dvl bs ρ l = some vs) : dv bs ρ (.agg (ofList l)) = some (.agg vs.toArray) := by
  simp only [dv, dvs_ofList, h, Option.map_some]
theorem mrel_nil {W : World} : MRel bs ρ [] W := fun i o h => by simp at h
theorem mrel_one {W : World} {b : Ent} {o : AObj} (h : ORel [b] ρ W b o) : MRel [b] ρ [o] W := fun i p hp => by
  cases i with
  | zero => cases hp; exact ⟨b, rfl, h⟩
  | succ i => simp at hp
theorem mrel_two {W : World} {b c : Ent} {o q : AObj} (h : ORel [b, c] ρ W b o) (h' : ORel [b, c] ρ W c q) : MRel [b, c] ρ [o, q] W := fun i p hp => by
  cases i with
  | zero => cases hp; exact ⟨b, rfl, h⟩
  | succ i => cases i with
    | zero => cases hp; exact ⟨c, rfl, h'⟩
    | succ i => simp at hp
theorem mrel_three {W : World} {b c d : Ent} {o q r : AObj} (h : ORel [b, c, d] ρ W b o) (h' : ORel [b, c, d] ρ W c q) (h'' : ORel [b, c, d] ρ W d r) : MRel [b, c, d] ρ [o, q, r] W := fun i p hp => by
  cases i with
  | zero => cases hp; exact ⟨b, rfl, h⟩
  | succ i => cases i with
    | zero => cases hp; exact ⟨c, rfl, h'⟩
    | succ i => cases i with
      | zero => cases hp; exact ⟨d, rfl, h''⟩
      | succ i => simp at hp
theorem row_inR {k : IntKind} {W : World} {a : Option Addr} {len cap : Nat} {zs : List Int} (h : IsRow k W a len cap zs) (i : Int) (h0 : 0 ≤ i) (h1 : i < len) : inR k (zs.getD i.toNat 0) = true := by
  rcases h with ⟨rfl, rfl, rfl, rfl⟩ | ⟨x, rfl, hle, hmax, hz, hcell, hwf⟩
  · omega
  · have hlt : i.toNat < zs.length := by omega
    refine wf_inR (hwf _ ?_)
    rw [List.getD_eq_getElem?_getD, List.getElem?_eq_getElem hlt]
    exact List.getElem_mem hlt
theorem row_le {k : IntKind} {W : World} {a : Option Addr} {len cap : Nat} {zs : List Int} (h : IsRow k W a len cap zs) : (len : Int) ≤ cap := by
  rcases h with ⟨rfl, rfl, rfl, rfl⟩ | ⟨x, rfl, hle, _⟩ <;> omega
/-- Functions that may be entered. -/
def okB (P : Program) (l : List FuncId) : Bool := l.all fun f => match P.funcs[f]? with
  | some fn => (fn.name == "runtime.NumGoroutine") == false && fn.body.isSome
  | none => false
theorem okB_spec {P : Program} {l : List FuncId} (h : okB P l = true) : ∀ f ∈ l, ∃ fn, P.funcs[f]? = some fn ∧ (fn.name == "runtime.NumGoroutine") = false ∧ fn.body.isSome = true := by
  intro f hf
  have := List.all_eq_true.1 h f hf
  split at this
  · rename_i fn hfn
    simp only [Bool.and_eq_true, beq_iff_eq] at this
    exact ⟨fn, hfn, this.1, this.2⟩
  · cases this

theorem RelM.nil (W : World) (ρ : Env) : RelM [] ρ (· < W.heap.size) W [] W :=
  ⟨rfl, fun i o h => by simp at h, fun i o b h => by simp at h, fun i j o o' b b' _ h => by simp at h, ⟨rfl, rfl, rfl, Nat.le_refl _, fun _ _ => rfl, fun _ h => h⟩⟩

end Go.SX

/- Symbolic execution of the model's code, part 13: words for reading a tree. -/
namespace Go.SX
variable {ρ : Env}
theorem ev_lss (a b : SE) : (evB ρ (.cmp .lss a b) = true) = (den ρ a < den ρ b) := by
  rw [evB, den, ofB_bne]; exact propext ⟨fun h => of_decide_eq_true h, fun h => decide_eq_true h⟩
theorem ev_lss' (a b : SE) : (evB ρ (.cmp .lss a b) = false) = (den ρ b ≤ den ρ a) := by
  rw [evB, den, ofB_bne]; exact propext ⟨fun h => by have := of_decide_eq_false h; omega, fun h => decide_eq_false (by omega)⟩
theorem ev_leq (a b : SE) : (evB ρ (.cmp .leq a b) = true) = (den ρ a ≤ den ρ b) := by
  rw [evB, den, ofB_bne]; exact propext ⟨fun h => of_decide_eq_true h, fun h => decide_eq_true h⟩
theorem ev_leq' (a b : SE) : (evB ρ (.cmp .leq a b) = false) = (den ρ b < den ρ a) := by
  rw [evB, den, ofB_bne]; exact propext ⟨fun h => by have := of_decide_eq_false h; omega, fun h => decide_eq_false (by omega)⟩
theorem ev_eql (a b : SE) : (evB ρ (.cmp .eql a b) = true) = (den ρ a = den ρ b) := by
  rw [evB, den, ofB_bne]; simp [cmpI]
theorem ev_eql' (a b : SE) : (evB ρ (.cmp .eql a b) = false) = (den ρ a ≠ den ρ b) := by
  rw [evB, den, ofB_bne]; simp [cmpI]
theorem ev_neq (a b : SE) : (evB ρ (.cmp .neq a b) = true) = (den ρ a ≠ den ρ b) := by
  rw [evB, den, ofB_bne]; simp [cmpI]
theorem ev_neq' (a b : SE) : (evB ρ (.cmp .neq a b) = false) = (den ρ a = den ρ b) := by
  rw [evB, den, ofB_bne]; simp [cmpI]
theorem ev_not (a : SE) : (evB ρ (.not a) = true) = (evB ρ a = false) := by
  rw [evB, den, ofB_bne]; simp [evB]
theorem ev_not' (a : SE) : (evB ρ (.not a) = false) = (evB ρ a = true) := by
  rw [evB, den, ofB_bne]; simp [evB]
theorem ev_and (a b : SE) : (evB ρ (.and a b) = true) = (evB ρ a = true ∧ evB ρ b = true) := by
  rw [evB, den, ofB_bne]; simp [evB]
theorem ev_and' (a b : SE) : (evB ρ (.and a b) = false) = ¬(evB ρ a = true ∧ evB ρ b = true) := by
  rw [evB, den, ofB_bne]; simp [evB]
theorem ev_lit1 : (evB ρ (.lit 1) = true) = True := by simp [evB, den]
theorem ev_lit0 : (evB ρ (.lit 0) = true) = False := by simp [evB, den]
theorem ev_app (f : Nat) (a : SE) : (evB ρ (.app f a) = true) = (ρ.f f (dens ρ a) ≠ 0) := by
  rw [evB, den]; simp
theorem ev_app' (f : Nat) (a : SE) : (evB ρ (.app f a) = false) = (ρ.f f (dens ρ a) = 0) := by
  rw [evB, den]; simp

theorem says1 {m : List AObj} : saysTrue ρ (.bool (.lit 1)) m := by show evB ρ (.lit 1) = true; rw [ev_lit1]; trivial

theorem u8_parts : ∀ n : Fin 256, binI .shr .u8 (n.val : Int) 6 = binI .quo .u8 (n.val : Int) 64 ∧ binI .and .u8 (binI .shr .u8 (n.val : Int) 3) 7 = binI .rem .u8 (binI .quo .u8 (n.val : Int) 8) 8 ∧
    binI .and .u8 (n.val : Int) 7 = binI .rem .u8 (n.val : Int) 8 := by decide +kernel
theorem u8_part {c : Int} (h0 : 0 ≤ c) (h1 : c ≤ 255) : binI .shr .u8 c 6 = binI .quo .u8 c 64 ∧ binI .and .u8 (binI .shr .u8 c 3) 7 = binI .rem .u8 (binI .quo .u8 c 8) 8 ∧ binI .and .u8 c 7 = binI .rem .u8 c 8 := by
  have := u8_parts ⟨c.toNat, by omega⟩
  have e : ((⟨c.toNat, by omega⟩ : Fin 256).val : Int) = c := by show ((c.toNat : Nat) : Int) = c; omega
  rw [e] at this
  exact this
end Go.SX

/- Symbolic execution of the model's code, part 15: words for contracts of functions of whole numbers. -/
namespace Go.SX
variable {bs : List Ent} {ρ : Env}
theorem dvl_int {k : IntKind} {e : SE} {l : List AV} {vs : List Value} (h : dvl bs ρ (.int k e :: l) = some vs) : inR k (den ρ e) = true ∧ ∃ us, vs = .int k (den ρ e) :: us ∧ dvl bs ρ l = some us := by
  simp only [dvl, Option.bind_eq_some_iff, Option.map_eq_some_iff] at h
  obtain ⟨x, hx, xs, hxs, rfl⟩ := h
  obtain ⟨rfl, hr⟩ := dv_int hx
  exact ⟨hr, xs, rfl, hxs⟩
theorem dvl_end {vs : List Value} (h : dvl bs ρ [] = some vs) : vs = [] := by cases h; rfl
theorem i64_in {x : Int} (h : inR .i64 x = true) : -9223372036854775808 ≤ x ∧ x ≤ 9223372036854775807 := by
  have := of_decide_eq_true h
  simp [IntKind.min, IntKind.max, IntKind.bits, IntKind.signed] at this
  omega
theorem u64_in {x : Int} (h : inR .u64 x = true) : 0 ≤ x ∧ x ≤ 18446744073709551615 := by
  have := of_decide_eq_true h
  simp [IntKind.min, IntKind.max, IntKind.bits, IntKind.signed] at this
  omega
theorem u32_in {x : Int} (h : inR .u32 x = true) : 0 ≤ x ∧ x ≤ 4294967295 := by
  have := of_decide_eq_true h
  simp [IntKind.min, IntKind.max, IntKind.bits, IntKind.signed] at this
  omega
theorem u16_in {x : Int} (h : inR .u16 x = true) : 0 ≤ x ∧ x ≤ 65535 := by
  have := of_decide_eq_true h
  simp [IntKind.min, IntKind.max, IntKind.bits, IntKind.signed] at this
  omega
theorem i32_in {x : Int} (h : inR .i32 x = true) : -2147483648 ≤ x ∧ x ≤ 2147483647 := by
  have := of_decide_eq_true h
  simp [IntKind.min, IntKind.max, IntKind.bits, IntKind.signed] at this
  omega
theorem in_i64 {x : Int} (h : -9223372036854775808 ≤ x ∧ x ≤ 9223372036854775807) : inR .i64 x = true := by
  unfold inR
  simp [IntKind.min, IntKind.max, IntKind.bits, IntKind.signed]
  omega
theorem in_u64 {x : Int} (h : 0 ≤ x ∧ x ≤ 18446744073709551615) : inR .u64 x = true := by
  unfold inR
  simp [IntKind.min, IntKind.max, IntKind.bits, IntKind.signed]
  omega
theorem wrap_i64 {x : Int} (h0 : -9223372036854775808 ≤ x) (h1 : x ≤ 9223372036854775807) : IntKind.i64.wrap x = x := by rw [i64_wrap]; omega
theorem add_i64 {x y : Int} (h0 : -9223372036854775808 ≤ x + y) (h1 : x + y ≤ 9223372036854775807) : binI .add .i64 x y = x + y := by
  show IntKind.i64.wrap (x + y) = _
  exact wrap_i64 h0 h1
theorem sub_i64 {x y : Int} (h0 : -9223372036854775808 ≤ x - y) (h1 : x - y ≤ 9223372036854775807) : binI .sub .i64 x y = x - y := by
  show IntKind.i64.wrap (x - y) = _
  exact wrap_i64 h0 h1
theorem mul_i64 {x y : Int} (h0 : -9223372036854775808 ≤ x * y) (h1 : x * y ≤ 9223372036854775807) : binI .mul .i64 x y = x * y := by
  show IntKind.i64.wrap (x * y) = _
  exact wrap_i64 h0 h1
theorem rem_i64 (x y : Int) : binI .rem .i64 x y = x.tmod y := rfl
theorem dv_pair {k k' : IntKind} {e e' : SE} (h : inR k (den ρ e) = true) (h' : inR k' (den ρ e') = true) : dv bs ρ (.tuple (ofList [.int k e, .int k' e'])) = some (.tuple #[.int k (den ρ e), .int k' (den ρ e')]) := by
  simp only [ofList, dv, dvs, h, h', if_true, Option.bind_some, Option.map_some]
theorem dv_triple {k k' k'' : IntKind} {e e' e'' : SE} (h : inR k (den ρ e) = true) (h' : inR k' (den ρ e') = true) (h'' : inR k'' (den ρ e'') = true) : dv bs ρ (.tuple (ofList [.int k e, .int k' e', .int k'' e''])) = some (.tuple #[.int k (den ρ e), .int k' (den ρ e'), .int k'' (den ρ e'')]) := by
  simp only [ofList, dv, dvs, h, h', h'', if_true, Option.bind_some, Option.map_some]
theorem mn_lt (a b x : Int) : (if b < a then b else a) < x ↔ a < x ∨ b < x := by split <;> omega
theorem le_mn (a b x : Int) : x ≤ (if b < a then b else a) ↔ x ≤ a ∧ x ≤ b := by split <;> omega
theorem lt_mx (a b x : Int) : x < (if b > a then b else a) ↔ x < a ∨ x < b := by split <;> omega
theorem mx_le (a b x : Int) : (if b > a then b else a) ≤ x ↔ a ≤ x ∧ b ≤ x := by split <;> omega
theorem quo_u64 {x : Int} (h : 0 ≤ x ∧ x < 18446744073709551616) : binI .quo .u64 x 256 = x / 256 ∧ 0 ≤ x / 256 ∧ x / 256 < 18446744073709551616 := by
  refine ⟨?_, by omega, by omega⟩
  show IntKind.u64.wrap (x.tdiv 256) = _
  rw [Int.tdiv_eq_ediv_of_nonneg h.1, u64_wrap]
  omega
theorem rem_u8 {x : Int} (h : 0 ≤ x) : IntKind.u8.wrap (binI .rem .u64 x 256) = IntKind.u8.wrap x := by
  show IntKind.u8.wrap (x.tmod 256) = _
  rw [Int.tmod_eq_emod_of_nonneg h, u8_wrap, u8_wrap]
  omega
theorem q0 {e : SE} (h : 0 ≤ den ρ e ∧ den ρ e < 18446744073709551616) : den ρ (.conv .u8 (.bin .rem .u64 e (.lit 256))) = den ρ (.conv .u8 e) := rem_u8 h.1
theorem q1 {e : SE} (h : 0 ≤ den ρ e ∧ den ρ e < 18446744073709551616) : den ρ (.conv .u8 (.bin .rem .u64 (.bin .quo .u64 e (.lit 256)) (.lit 256))) = den ρ (.conv .u8 (.bin .shr .u64 e (.lit 8))) := by
  have h0 := quo_u64 h
  simp only [den]
  rw [h0.1, rem_u8 h0.2.1, show binI .shr .u64 (den ρ e) 8 = den ρ e / 256 from shr_num (den ρ e) 8 (by omega)]
theorem q2 {e : SE} (h : 0 ≤ den ρ e ∧ den ρ e < 18446744073709551616) : den ρ (.conv .u8 (.bin .rem .u64 (.bin .quo .u64 (.bin .quo .u64 e (.lit 256)) (.lit 256)) (.lit 256))) = den ρ (.conv .u8 (.bin .shr .u64 e (.lit 16))) := by
  have h0 := quo_u64 h
  have h1 := quo_u64 h0.2
  simp only [den]
  rw [h0.1, h1.1, rem_u8 h1.2.1, show binI .shr .u64 (den ρ e) 16 = den ρ e / 65536 from shr_num (den ρ e) 16 (by omega)]
  congr 1
  omega
theorem q3 {e : SE} (h : 0 ≤ den ρ e ∧ den ρ e < 18446744073709551616) : den ρ (.conv .u8 (.bin .rem .u64 (.bin .quo .u64 (.bin .quo .u64 (.bin .quo .u64 e (.lit 256)) (.lit 256)) (.lit 256)) (.lit 256))) = den ρ (.conv .u8 (.bin .shr .u64 e (.lit 24))) := by
  have h0 := quo_u64 h
  have h1 := quo_u64 h0.2
  have h2 := quo_u64 h1.2
  simp only [den]
  rw [h0.1, h1.1, h2.1, rem_u8 h2.2.1, show binI .shr .u64 (den ρ e) 24 = den ρ e / 16777216 from shr_num (den ρ e) 24 (by omega)]
  congr 1
  omega
theorem q4 {e : SE} (h : 0 ≤ den ρ e ∧ den ρ e < 18446744073709551616) : den ρ (.conv .u8 (.bin .rem .u64 (.bin .quo .u64 (.bin .quo .u64 (.bin .quo .u64 (.bin .quo .u64 e (.lit 256)) (.lit 256)) (.lit 256)) (.lit 256)) (.lit 256))) = den ρ (.conv .u8 (.bin .shr .u64 e (.lit 32))) := by
  have h0 := quo_u64 h
  have h1 := quo_u64 h0.2
  have h2 := quo_u64 h1.2
  have h3 := quo_u64 h2.2
  simp only [den]
  rw [h0.1, h1.1, h2.1, h3.1, rem_u8 h3.2.1, show binI .shr .u64 (den ρ e) 32 = den ρ e / 4294967296 from shr_num (den ρ e) 32 (by omega)]
  congr 1
  omega
theorem q5 {e : SE} (h : 0 ≤ den ρ e ∧ den ρ e < 18446744073709551616) : den ρ (.conv .u8 (.bin .rem .u64 (.bin .quo .u64 (.bin .quo .u64 (.bin .quo .u64 (.bin .quo .u64 (.bin .quo .u64 e (.lit 256)) (.lit 256)) (.lit 256)) (.lit 256)) (.lit 256)) (.lit 256))) = den ρ (.conv .u8 (.bin .shr .u64 e (.lit 40))) := by
  have h0 := quo_u64 h
  have h1 := quo_u64 h0.2
  have h2 := quo_u64 h1.2
  have h3 := quo_u64 h2.2
  have h4 := quo_u64 h3.2
  simp only [den]
  rw [h0.1, h1.1, h2.1, h3.1, h4.1, rem_u8 h4.2.1, show binI .shr .u64 (den ρ e) 40 = den ρ e / 1099511627776 from shr_num (den ρ e) 40 (by omega)]
  congr 1
  omega
theorem q6 {e : SE} (h : 0 ≤ den ρ e ∧ den ρ e < 18446744073709551616) : den ρ (.conv .u8 (.bin .rem .u64 (.bin .quo .u64 (.bin .quo .u64 (.bin .quo .u64 (.bin .quo .u64 (.bin .quo .u64 (.bin .quo .u64 e (.lit 256)) (.lit 256)) (.lit 256)) (.lit 256)) (.lit 256)) (.lit 256)) (.lit 256))) = den ρ (.conv .u8 (.bin .shr .u64 e (.lit 48))) := by
  have h0 := quo_u64 h
  have h1 := quo_u64 h0.2
  have h2 := quo_u64 h1.2
  have h3 := quo_u64 h2.2
  have h4 := quo_u64 h3.2
  have h5 := quo_u64 h4.2
  simp only [den]
  rw [h0.1, h1.1, h2.1, h3.1, h4.1, h5.1, rem_u8 h5.2.1, show binI .shr .u64 (den ρ e) 48 = den ρ e / 281474976710656 from shr_num (den ρ e) 48 (by omega)]
  congr 1
  omega
theorem q7 {e : SE} (h : 0 ≤ den ρ e ∧ den ρ e < 18446744073709551616) : den ρ (.conv .u8 (.bin .rem .u64 (.bin .quo .u64 (.bin .quo .u64 (.bin .quo .u64 (.bin .quo .u64 (.bin .quo .u64 (.bin .quo .u64 (.bin .quo .u64 e (.lit 256)) (.lit 256)) (.lit 256)) (.lit 256)) (.lit 256)) (.lit 256)) (.lit 256)) (.lit 256))) = den ρ (.conv .u8 (.bin .shr .u64 e (.lit 56))) := by
  have h0 := quo_u64 h
  have h1 := quo_u64 h0.2
  have h2 := quo_u64 h1.2
  have h3 := quo_u64 h2.2
  have h4 := quo_u64 h3.2
  have h5 := quo_u64 h4.2
  have h6 := quo_u64 h5.2
  simp only [den]
  rw [h0.1, h1.1, h2.1, h3.1, h4.1, h5.1, h6.1, rem_u8 h6.2.1, show binI .shr .u64 (den ρ e) 56 = den ρ e / 72057594037927936 from shr_num (den ρ e) 56 (by omega)]
  congr 1
  omega
theorem lt_mn (a b x : Int) : x < (if b < a then b else a) ↔ x < a ∧ x < b := by split <;> omega
theorem mn_le (a b x : Int) : (if b < a then b else a) ≤ x ↔ a ≤ x ∨ b ≤ x := by split <;> omega
theorem mx_lt (a b x : Int) : (if b > a then b else a) < x ↔ a < x ∧ b < x := by split <;> omega
theorem le_mx (a b x : Int) : x ≤ (if b > a then b else a) ↔ x ≤ a ∨ x ≤ b := by split <;> omega
end Go.SX

/- Symbolic execution of the model's code, part 16: what is told of a call once, in letters, holds of all its calls. -/
namespace Go.SX
set_option linter.unusedSimpArgs false
set_option linter.unusedVariables false
variable {bs : List Ent} {ρ : Env} {P : Program} {w : World} {S : Nat → Prop} {w0 : World}

/-- What a pattern's letters, blocks and rows' letters stand for. -/
structure Sig where
  v : List (Nat × SE)
  b : List Nat
  g : List (Nat × Nat)
def renG (j : Nat) : List (Nat × Nat) → Nat
  | [] => j
  | (i, k) :: r => if i = j then k else renG j r
def Env.sig (ρ : Env) (σ : Sig) : Env := { v := fun i => den ρ (subV σ.v i), f := fun j l => ρ.f (renG j σ.g) l }

def mkAndL : SE → SE → SE
  | .lit x, .lit y => .lit (ofB (x != 0 && y != 0))
  | a, b => .and a b
theorem den_mkAndL (a b : SE) : den ρ (mkAndL a b) = ofB (den ρ a != 0 && den ρ b != 0) := by
  unfold mkAndL; split <;> rfl
mutual
def SE.subN (σ : Sig) : SE → SE
  | .var i => subV σ.v i
  | .bin op k a b => mkBin op k (a.subN σ) (b.subN σ)
  | .conv k a => mkConv k (a.subN σ)
  | .cmp op a b => mkCmp op (a.subN σ) (b.subN σ)
  | .not a => mkNot (a.subN σ)
  | .and a b => mkAndL (a.subN σ) (b.subN σ)
  | .mx a b => mkMx (a.subN σ) (b.subN σ)
  | .mn a b => mkMn (a.subN σ) (b.subN σ)
  | .app f a => .app (renG f σ.g) (a.subM σ)
  | .cons _ _ => .lit 0
  | .lit n => .lit n
  | .nil => .lit 0
def SE.subM (σ : Sig) : SE → SE
  | .cons a b => .cons (a.subN σ) (b.subM σ)
  | _ => .nil
end
mutual
theorem den_subN (σ : Sig) : ∀ e : SE, den ρ (e.subN σ) = den (ρ.sig σ) e
  | .lit n => rfl
  | .var i => rfl
  | .bin op k a b => by simp only [SE.subN, den_mkBin, den, den_subN σ a, den_subN σ b]
  | .conv k a => by simp only [SE.subN, den_mkConv, den, den_subN σ a]
  | .cmp op a b => by simp only [SE.subN, den_mkCmp, den, den_subN σ a, den_subN σ b]
  | .not a => by
    simp only [SE.subN, den_mkNot, den, evB, den_subN σ a]
    congr 1
    simp [bne]
  | .and a b => by simp only [SE.subN, den_mkAndL, den, den_subN σ a, den_subN σ b]
  | .mx a b => by simp only [SE.subN, den_mkMx, den, den_subN σ a, den_subN σ b]
  | .mn a b => by simp only [SE.subN, den_mkMn, den, den_subN σ a, den_subN σ b]
  | .app f a => by simp only [SE.subN, den, dens_subM σ a]; rfl
  | .nil => rfl
  | .cons _ _ => rfl
theorem dens_subM (σ : Sig) : ∀ e : SE, dens ρ (e.subM σ) = dens (ρ.sig σ) e
  | .cons a b => by simp only [SE.subM, dens, den_subN σ a, dens_subM σ b]
  | .lit _ | .bin _ _ _ _ | .conv _ _ | .cmp _ _ _ | .not _ | .and _ _ | .mx _ _ | .mn _ _ | .app _ _ | .nil | .var _ => rfl
end
/-- A condition: of it its truth alone counts. -/
def SE.subB (σ : Sig) : SE → SE
  | .and a b => mkAnd (a.subB σ) (b.subB σ)
  | .not a => mkNot (a.subB σ)
  | e => e.subN σ
theorem evB_subB (σ : Sig) : ∀ e : SE, evB ρ (e.subB σ) = evB (ρ.sig σ) e
  | .and a b => by
    rw [SE.subB, evB_mkAnd, evB_subB σ a, evB_subB σ b]
    show _ = (ofB _ != 0)
    rw [ofB_bne]; rfl
  | .not a => by
    rw [SE.subB, evB_mkNot, evB_subB σ a]
    show _ = (ofB _ != 0)
    rw [ofB_bne]
    simp [evB, bne]
  | .lit n => by simp only [SE.subB, evB, den_subN]
  | .var n => by simp only [SE.subB, evB, den_subN]
  | .bin _ _ _ _ => by simp only [SE.subB, evB, den_subN]
  | .conv _ _ => by simp only [SE.subB, evB, den_subN]
  | .cmp _ _ _ => by simp only [SE.subB, evB, den_subN]
  | .mx _ _ => by simp only [SE.subB, evB, den_subN]
  | .mn _ _ => by simp only [SE.subB, evB, den_subN]
  | .app _ _ => by simp only [SE.subB, evB, den_subN]
  | .nil => by simp only [SE.subB, evB, den_subN]
  | .cons _ _ => by simp only [SE.subB, evB, den_subN]

def renB (b : List Nat) (n i : Nat) : Nat := match b[i]? with
  | some j => j
  | none => n + (i - b.length)
def AV.subR (σ : Sig) (n : Nat) : AV → AV
  | .int k e => .int k (e.subN σ)
  | .bool e => .bool (e.subB σ)
  | .ptr id off => .ptr (renB σ.b n id) off
  | .sptr id i s o => .sptr (renB σ.b n id) (i.subN σ) s o
  | .slice id o l c => .slice (renB σ.b n id) o (l.subN σ) (c.subN σ)
  | .arg id => .arg (renB σ.b n id)
  | .mapv id => .mapv (renB σ.b n id)
  | .erow id p o s => .erow (renB σ.b n id) p o s
  | .row id o l s => .row (renB σ.b n id) o (l.subN σ) s
  | .bstr l => .bstr (l.subM σ)
  | .fn f c => .fn f (c.subR σ n)
  | .fnx f c => .fnx f (c.subR σ n)
  | .iface t v => .iface t (v.subR σ n)
  | .xslice b o l c => .xslice (b.subN σ) (o.subN σ) (l.subN σ) (c.subN σ)
  | .agg l => .agg (l.subR σ n)
  | .tuple l => .tuple (l.subR σ n)
  | .cons a b => .cons (a.subR σ n) (b.subR σ n)
  | v => v
mutual
theorem dv_subR {bs bp : List Ent} (σ : Sig) (n : Nat) (h : ∀ i, bs[renB σ.b n i]? = bp[i]?) : ∀ a : AV, dv bs ρ (a.subR σ n) = dv bp (ρ.sig σ) a
  | .int k e => by simp only [AV.subR, dv, den_subN]
  | .bool e => by simp only [AV.subR, dv, evB_subB]
  | .ptr id off => by simp only [AV.subR, dv, h]
  | .sptr id i s o => by simp only [AV.subR, dv, h, den_subN]
  | .slice id o l c => by simp only [AV.subR, dv, h, den_subN]
  | .arg id => by simp only [AV.subR, dv, h]
  | .mapv id => by simp only [AV.subR, dv, h]
  | .erow id _ _ _ => by simp only [AV.subR, dv, h]
  | .row id o l s => by simp only [AV.subR, dv, h, den_subN]
  | .bstr l => by simp only [AV.subR, dv, dens_subM]
  | .fn f c => by simp only [AV.subR, dv, dvs_subR σ n h c]
  | .fnx f c => by simp only [AV.subR, dv, dvs_subR σ n h c]
  | .iface t v => by simp only [AV.subR, dv, dv_subR σ n h v]
  | .xslice b o l c => by simp only [AV.subR, dv, den_subN]
  | .agg l => by simp only [AV.subR, dv, dvs_subR σ n h l]
  | .tuple l => by simp only [AV.subR, dv, dvs_subR σ n h l]
  | .cons a b => rfl
  | .str _ | .nilptr | .gptr _ | .nilslice | .nilmap | .nilFunc | .nilIface | .nil => rfl
theorem dvs_subR {bs bp : List Ent} (σ : Sig) (n : Nat) (h : ∀ i, bs[renB σ.b n i]? = bp[i]?) : ∀ a : AV, dvs bs ρ (a.subR σ n) = dvs bp (ρ.sig σ) a
  | .cons a b => by simp only [AV.subR, dvs, dv_subR σ n h a, dvs_subR σ n h b]
  | .int _ _ | .bool _ | .xslice _ _ _ _ | .sptr _ _ _ _ | .slice _ _ _ _ | .row _ _ _ _ | .bstr _ | .fn _ _ | .fnx _ _ | .iface _ _ | .agg _ | .tuple _
  | .str _ | .ptr _ _ | .arg _ | .mapv _ | .nilmap | .erow _ _ _ _ | .nilptr | .gptr _ | .nilslice | .nilFunc | .nilIface | .nil => rfl
end
theorem dvl_subR {bs bp : List Ent} (σ : Sig) (n : Nat) (h : ∀ i, bs[renB σ.b n i]? = bp[i]?) : ∀ l : List AV, dvl bs ρ (l.map (AV.subR σ n)) = dvl bp (ρ.sig σ) l
  | [] => rfl
  | a :: l => by simp only [List.map_cons, dvl, dv_subR σ n h a, dvl_subR σ n h l]

def Col.ren (g : List (Nat × Nat)) : Col → Col
  | .int k j => .int k (renG j g)
  | .bool j => .bool (renG j g)
  | .sl b o n c => .sl (renG b g) (renG o g) (renG n g) (renG c g)
theorem colV_ren (σ : Sig) (i : Int) (p : Col) : colV ρ i (p.ren σ.g) = colV (ρ.sig σ) i p := by cases p <;> rfl
theorem colOk_ren (σ : Sig) (i : Int) (p : Col) : colOk ρ i (p.ren σ.g) = colOk (ρ.sig σ) i p := by cases p <;> rfl
def AObj.subR (σ : Sig) (n : Nat) : AObj → AObj
  | .cells c ty own g => .cells (c.map (AV.subR σ n)) ty own g
  | .sym m cap row ty => .sym (m.subN σ) (cap.subN σ) (row.map (Col.ren σ.g)) ty
  | .mp ks vs => .mp ks (vs.map (AV.subR σ n))
  | .iter m => .iter (renB σ.b n m)
  | .siter s p => .siter s p
  | .dead => .dead
theorem ORel.subR {bs bp : List Ent} (σ : Sig) (n : Nat) (h : ∀ i, bs[renB σ.b n i]? = bp[i]?) {b : Ent} {o : AObj} : ORel bs ρ w b (o.subR σ n) ↔ ORel bp (ρ.sig σ) w b o := by
  cases o with
  | cells c ty own g => simp only [AObj.subR, ORel, dvl_subR σ n h]
  | sym m cap row ty =>
    simp only [AObj.subR, ORel, den_subN, List.length_map]
    constructor
    · rintro ⟨e1, e2, e3, e4, e5, e6⟩
      refine ⟨e1, e2, e3, e4, e5, fun h0 => ?_⟩
      obtain ⟨e7, e8, e9⟩ := e6 h0
      refine ⟨e7, e8, fun i j p hi hp => ?_⟩
      have := e9 i j (p.ren σ.g) hi (by simp [hp])
      rw [colV_ren, colOk_ren] at this
      exact this
    · rintro ⟨e1, e2, e3, e4, e5, e6⟩
      refine ⟨e1, e2, e3, e4, e5, fun h0 => ?_⟩
      obtain ⟨e7, e8, e9⟩ := e6 h0
      refine ⟨e7, e8, fun i j p hi hp => ?_⟩
      rw [List.getElem?_map, Option.map_eq_some_iff] at hp
      obtain ⟨q, hq, rfl⟩ := hp
      rw [colV_ren, colOk_ren]
      exact e9 i j q hi hq
  | mp ks vs => simp only [AObj.subR, ORel, dvl_subR σ n h]
  | iter m => simp only [AObj.subR, ORel, h]
  | siter s p => exact Iff.rfl
  | dead => exact Iff.rfl
theorem mine_subR (σ : Sig) (n : Nat) (o : AObj) : (o.subR σ n).mine = o.mine := by cases o <;> rfl
theorem Occ.subR (σ : Sig) (n : Nat) (o : AObj) : Occ ρ (o.subR σ n) ↔ Occ (ρ.sig σ) o := by
  cases o with
  | cells => exact Iff.rfl
  | sym m cap row ty => simp only [AObj.subR, Occ, den_subN]
  | mp => exact Iff.rfl
  | iter => exact Iff.rfl
  | siter => exact Iff.rfl
  | dead => exact Iff.rfl

/-- What is told of a function's call: arguments and memory in letters, and what it comes to. -/
structure Pat where
  args : List AV
  mem : List AObj
  out : Out

structure Acc where
  v : List (Nat × SE) := []
  b : List (Nat × Nat) := []
  g : List (Nat × Nat) := []
def Acc.s (acc : Acc) (p e : SE) : Acc := match p with
  | .var i => { acc with v := (i, e) :: acc.v }
  | _ => acc
def Acc.k (acc : Acc) (i j : Nat) : Acc := { acc with b := (i, j) :: acc.b }
def bindA : AV → AV → Acc → Acc
  | .int _ p, .int _ e, acc => acc.s p e
  | .bool p, .bool e, acc => acc.s p e
  | .ptr i _, .ptr j _, acc => acc.k i j
  | .slice i _ n c, .slice j _ n' c', acc => ((acc.k i j).s n n').s c c'
  | .arg i, .arg j, acc => acc.k i j
  | .mapv i, .mapv j, acc => acc.k i j
  | .erow i _ _ _, .erow j _ _ _, acc => acc.k i j
  | .fnx _ c, .fnx _ c', acc => bindA c c' acc
  | .row i _ n _, .row j _ n' _, acc => (acc.k i j).s n n'
  | .fn _ c, .fn _ c', acc => bindA c c' acc
  | .iface _ c, .iface _ c', acc => bindA c c' acc
  | .agg l, .agg l', acc => bindA l l' acc
  | .tuple l, .tuple l', acc => bindA l l' acc
  | .cons a r, .cons a' r', acc => bindA r r' (bindA a a' acc)
  | _, _, acc => acc
def bindAs : List AV → List AV → Acc → Acc
  | a :: l, b :: m, acc => bindAs l m (bindA a b acc)
  | _, _, acc => acc
def bindCs : List Col → List Col → List (Nat × Nat) → List (Nat × Nat)
  | .int _ g :: l, .int _ g' :: m, acc => bindCs l m ((g, g') :: acc)
  | .bool g :: l, .bool g' :: m, acc => bindCs l m ((g, g') :: acc)
  | .sl b o n c :: l, .sl b' o' n' c' :: m, acc => bindCs l m ((b, b') :: (o, o') :: (n, n') :: (c, c') :: acc)
  | _, _, acc => acc
def bindO : AObj → AObj → Acc → Acc
  | .cells c _ _ _, .cells c' _ _ _, acc => bindAs c c' acc
  | .mp _ vs, .mp _ vs', acc => bindAs vs vs' acc
  | .iter i, .iter j, acc => acc.k i j
  | .sym n c row _, .sym n' c' row' _, acc => let a := (acc.s n n').s c c'; { a with g := bindCs row row' a.g }
  | _, _, acc => acc
def lookB (i : Nat) : List (Nat × Nat) → Option Nat
  | [] => none
  | (j, k) :: r => if j = i then some k else lookB i r
def bindM (mem : List AObj) : List AObj → Nat → Acc → Acc
  | [], _, acc => acc
  | o :: r, i, acc => match lookB i acc.b with
    | some j => match mem[j]? with
      | some o' => bindM mem r (i + 1) (bindO o o' acc)
      | none => acc
    | none => acc
def sigOf (pat : Pat) (args : List AV) (mem : List AObj) : Sig :=
  let acc := bindM mem pat.mem 0 (bindAs pat.args args {})
  ⟨acc.v, (List.range pat.mem.length).map fun i => (lookB i acc.b).getD 0, acc.g⟩

def placed (σ : Sig) (mem m : List AObj) : List AObj :=
  (mem.zipIdx.map fun p => match findB p.2 σ.b 0 with
    | some i => (m.getD i .dead).subR σ mem.length
    | none => p.1) ++ (m.drop σ.b.length).map (AObj.subR σ mem.length)
def leafOk : List AObj → List AObj → Bool
  | [], m => m.all fun o => match o with
    | .cells _ _ own _ => own
    | .dead => true
    | .mp .. => true
    | .iter .. => true
    | .siter .. => true
    | .sym .. => false
  | o :: r, o' :: m => (match o with
    | .cells .. => match o' with
      | .sym .. => false
      | _ => true
    | .mp .. => match o' with
      | .sym .. => false
      | _ => true
    | .sym .. => beqO o o'
    | .iter .. => false
    | .siter .. => false
    | .dead => false) && leafOk r m
  | _ :: _, [] => false
def Out.inst (σ : Sig) (pm mem : List AObj) : Out → Out
  | .ite c a b => .ite (c.subB σ) (a.inst σ pm mem) (b.inst σ pm mem)
  | .need c a => .need (c.subB σ) (a.inst σ pm mem)
  | .done v m => if leafOk pm m = true then (if beqM m pm = true then .done (v.subR σ mem.length) mem else .done (v.subR σ mem.length) (placed σ mem m)) else .fail 21
  | .fail n => .fail n
def fitsM (σ : Sig) (mem : List AObj) : List AObj → List Nat → Bool
  | [], [] => true
  | o :: r, j :: b => (match mem[j]? with
    | some o' => beqO (o.subR σ mem.length) o'
    | none => false) && (match o with
    | .dead => false
    | _ => true) && fitsM σ mem r b
  | _, _ => false
def inst (pat : Pat) (args : List AV) (mem : List AObj) : Option Out :=
  let σ := sigOf pat args mem
  if beqL (pat.args.map (AV.subR σ mem.length)) args && fitsM σ mem pat.mem σ.b && nodupB σ.b && σ.g.all (fun p => p.1 < 100) then some (pat.out.inst σ pat.mem mem) else none

/-- What a contract in letters says. -/
def SumOk (P : Program) (F : Nat → List Int → Int) (f : FuncId) (pat : Pat) : Prop :=
  ∀ (S : Nat → Prop) (w0 : World) (bs : List Ent) (ρ : Env) (w : World) (vs : List Value) (v : AV) (mem' : List AObj), (∀ j, 100 ≤ j → j < 200 → ρ.f j = F j) → dvl bs ρ pat.args = some vs → RelM bs ρ S w0 pat.mem w →
    pat.out.pick ρ = some (v, mem') → Comes P S w0 bs ρ f vs w v mem'

theorem fitsM_get {σ : Sig} {mem : List AObj} : ∀ {pm : List AObj} {b : List Nat}, fitsM σ mem pm b = true → b.length = pm.length ∧ ∀ (i : Nat) (o : AObj), pm[i]? = some o → ∃ j : Nat, b[i]? = some j ∧ mem[j]? = some (o.subR σ mem.length) ∧ o ≠ .dead
  | [], [], h => ⟨rfl, fun i o ho => by simp at ho⟩
  | o :: r, j :: b, h => by
    simp only [fitsM, Bool.and_eq_true] at h
    obtain ⟨⟨h1, h2⟩, h3⟩ := h
    obtain ⟨h4, h5⟩ := fitsM_get h3
    refine ⟨by simp [h4], fun i p hp => ?_⟩
    cases i with
    | zero =>
      simp at hp; subst hp
      refine ⟨j, rfl, ?_, ?_⟩
      · split at h1
        · rename_i o' ho'; rw [ho', beqO_eq h1]
        · cases h1
      · rintro rfl; cases h2
    | succ i => exact h5 i p (by simpa using hp)
  | [], _ :: _, h => by simp [fitsM] at h
  | _ :: _, [], h => by simp [fitsM] at h

theorem leafOk_get : ∀ {pm m : List AObj}, leafOk pm m = true → pm.length ≤ m.length ∧ (∀ (i : Nat) (o o' : AObj), pm[i]? = some o → m[i]? = some o' → (∃ n c row ty, o = .sym n c row ty ∧ o' = o) ∨ (∀ ρ, Occ ρ o)) ∧
    ∀ (i : Nat) (o' : AObj), pm.length ≤ i → m[i]? = some o' → o'.mine = true ∨ o' = .dead
  | [], m, h => by
    refine ⟨Nat.zero_le _, fun i o o' ho => by simp at ho, fun i o' _ ho' => ?_⟩
    have := List.all_eq_true.1 h o' (List.mem_of_getElem? ho')
    cases o' with
    | cells c ty own g => exact .inl this
    | dead => exact .inr rfl
    | mp => exact .inl rfl
    | iter => exact .inl rfl
    | siter => exact .inl rfl
    | sym => cases this
  | o :: r, [], h => by simp [leafOk] at h
  | o :: r, o1 :: m, h => by
    simp only [leafOk, Bool.and_eq_true] at h
    obtain ⟨h1, h2⟩ := h
    obtain ⟨h3, h4, h5⟩ := leafOk_get h2
    refine ⟨by simp; exact h3, fun i p p' hp hp' => ?_, fun i o' hi ho' => ?_⟩
    · cases i with
      | zero =>
        simp at hp hp'; subst hp; subst hp'
        cases o with
        | cells c ty own g => exact .inr fun _ => trivial
        | sym n c row ty => exact .inl ⟨n, c, row, ty, rfl, (beqO_eq h1).symm⟩
        | mp => exact .inr fun _ => trivial
        | iter => cases h1
        | siter => cases h1
        | dead => cases h1
      | succ i => exact h4 i p p' (by simpa using hp) (by simpa using hp')
    · cases i with
      | zero => simp at hi
      | succ i => exact h5 i o' (by simpa using hi) (by simpa using ho')

theorem placed_same {σ : Sig} {mem pm : List AObj} (h : fitsM σ mem pm σ.b = true) : placed σ mem pm = mem := by
  obtain ⟨h1, h2⟩ := fitsM_get h
  unfold placed
  rw [List.drop_eq_nil_of_le (by omega), List.map_nil, List.append_nil]
  refine List.ext_getElem? fun p => ?_
  rw [List.getElem?_map, List.getElem?_zipIdx]
  cases hp : mem[p]? with
  | none => rfl
  | some o =>
    simp only [Option.map_some, Nat.zero_add]
    cases hf : findB p σ.b 0 with
    | none => rfl
    | some i =>
      obtain ⟨d, hd, hb⟩ := findB_some hf
      rw [Nat.zero_add] at hd; subst hd
      have hi : i < pm.length := by have := (List.getElem?_eq_some_iff.1 hb).1; omega
      obtain ⟨j, hj, hm, _⟩ := h2 i pm[i] (List.getElem?_eq_getElem hi)
      rw [hb] at hj; cases hj
      rw [hp] at hm
      simp only [List.getD_eq_getElem?_getD, List.getElem?_eq_getElem hi, Option.getD_some]
      exact hm.symm
theorem pick_inst {σ : Sig} {pm mem : List AObj} (hpl : placed σ mem pm = mem) : ∀ {out : Out} {v : AV} {mem' : List AObj}, (out.inst σ pm mem).pick ρ = some (v, mem') →
    ∃ u m, out.pick (ρ.sig σ) = some (u, m) ∧ v = u.subR σ mem.length ∧ mem' = placed σ mem m ∧ leafOk pm m = true := by
  intro out
  induction out with
  | ite c a b iha ihb =>
    intro v mem' h
    simp only [Out.inst, Out.pick, evB_subB] at h ⊢
    split at h
    · rename_i hc; rw [if_pos hc]; exact iha h
    · rename_i hc; rw [if_neg hc]; exact ihb h
  | need c a iha =>
    intro v mem' h
    simp only [Out.inst, Out.pick, evB_subB] at h ⊢
    split at h
    · rename_i hc; rw [if_pos hc]; exact iha h
    · cases h
  | done u m =>
    intro v mem' h
    simp only [Out.inst] at h
    split at h
    · rename_i hl
      split at h
      · rename_i hb
        obtain rfl := beqM_eq hb
        cases h
        exact ⟨u, _, rfl, rfl, hpl.symm, hl⟩
      · cases h; exact ⟨u, m, rfl, rfl, rfl, hl⟩
    · cases h
  | fail n => intro v mem' h; cases h

theorem inst_core {F : Nat → List Int → Int} {f : FuncId} {pat : Pat} (hs : ∀ (S' : Nat → Prop) (bs' : List Ent) (ρ' : Env) (vs' : List Value) (v' : AV) (m' : List AObj), (∀ x, S x → S' x) → (∀ j, 100 ≤ j → j < 200 → ρ'.f j = F j) → dvl bs' ρ' pat.args = some vs' → RelM bs' ρ' S' w pat.mem w →
      pat.out.pick ρ' = some (v', m') → Comes P S' w bs' ρ' f vs' w v' m') {args : List AV} {mem : List AObj} {out : Out} (hi : inst pat args mem = some out)
    {vs : List Value} {v : AV} {mem' : List AObj} (hF : ∀ j, 100 ≤ j → j < 200 → ρ.f j = F j) (hvs : dvl bs ρ args = some vs) (hm : RelM bs ρ S w0 mem w) (hp : out.pick ρ = some (v, mem')) : Comes P S w0 bs ρ f vs w v mem' := by
  unfold inst at hi
  simp only at hi
  generalize sigOf pat args mem = σ at hi
  split at hi
  · rename_i hc
    cases hi
    simp only [Bool.and_eq_true] at hc
    obtain ⟨⟨⟨hargs, hfit⟩, hnd⟩, hg⟩ := hc
    obtain ⟨hbl, hget⟩ := fitsM_get hfit
    have hnd := nodupB_spec hnd
    have hargs := beqL_eq hargs
    obtain ⟨u, m, hpick, rfl, rfl, hleaf⟩ := pick_inst (placed_same hfit) hp
    obtain ⟨hml, hold, hnew⟩ := leafOk_get hleaf
    -- the pattern's blocks
    let bp : List Ent := σ.b.map fun j => bs.getD j ⟨0, 0, 0, none, 0⟩
    have hbp : ∀ ex : List Ent, ∀ i, (bs ++ ex)[renB σ.b mem.length i]? = (bp ++ ex)[i]? := fun ex i => by
      unfold renB
      cases hb : σ.b[i]? with
      | some j =>
        have hi : i < σ.b.length := (List.getElem?_eq_some_iff.1 hb).1
        obtain ⟨o, ho⟩ : ∃ o, pat.mem[i]? = some o := ⟨_, List.getElem?_eq_getElem (by omega)⟩
        obtain ⟨j', hj', hmj, _⟩ := hget i o ho
        rw [hb] at hj'; cases hj'
        have hj : j < bs.length := by rw [hm.len]; exact (List.getElem?_eq_some_iff.1 hmj).1
        simp only
        rw [List.getElem?_append_left hj, List.getElem?_append_left (by simp [bp]; exact hi)]
        simp [bp, hb, List.getD_eq_getElem?_getD, List.getElem?_eq_getElem hj]
      | none =>
        have hi : σ.b.length ≤ i := List.getElem?_eq_none_iff.1 hb
        simp only
        rw [← hm.len, List.getElem?_append_right (by omega), List.getElem?_append_right (by simp [bp]; exact hi)]
        congr 1
        simp [bp]
    have hbp0 : ∀ i, bs[renB σ.b mem.length i]? = bp[i]? := fun i => by have := hbp [] i; simpa using this
    have hblk : ∀ (i j : Nat) (b : Ent), σ.b[i]? = some j → bs[j]? = some b → bp[i]? = some b := fun i j b h1 h2 => by
      have := hbp0 i
      unfold renB at this
      rw [h1] at this
      rw [← this]; exact h2
    have hblk' : ∀ (i : Nat) (b : Ent), bp[i]? = some b → ∃ j : Nat, σ.b[i]? = some j ∧ bs[j]? = some b := fun i b h1 => by
      have hi : i < σ.b.length := by have := (List.getElem?_eq_some_iff.1 h1).1; simpa [bp] using this
      refine ⟨σ.b[i], List.getElem?_eq_getElem hi, ?_⟩
      have := hbp0 i
      unfold renB at this
      rw [List.getElem?_eq_getElem hi, h1] at this
      exact this
    let S' : Nat → Prop := fun x => x < w.heap.size ∧ ∀ (i : Nat) (o : AObj) (b : Ent), pat.mem[i]? = some o → o.mine = true → bp[i]? = some b → b.blk ≠ x
    -- what is not kept is new, or the caller's own
    have hnS : ∀ x, ¬ S' x → w.heap.size ≤ x ∨ ∃ (i j : Nat) (o : AObj) (b : Ent), pat.mem[i]? = some o ∧ o.mine = true ∧ σ.b[i]? = some j ∧ bs[j]? = some b ∧ b.blk = x := fun x hx => by
      by_cases h1 : x < w.heap.size
      · refine .inr ?_
        false_or_by_contra
        rename_i hno
        refine hx ⟨h1, fun i o b h2 h3 h4 h5 => hno ?_⟩
        obtain ⟨j, h6, h7⟩ := hblk' i b h4
        exact ⟨i, j, o, b, h2, h3, h6, h7, h5⟩
      · exact .inl (by omega)
    have hmem : ∀ (i j : Nat) (o : AObj), pat.mem[i]? = some o → σ.b[i]? = some j → mem[j]? = some (o.subR σ mem.length) := fun i j o h1 h2 => by
      obtain ⟨j', h3, h4, _⟩ := hget i o h1
      rw [h2] at h3; cases h3; exact h4
    have hSS : ∀ x, S x → S' x := fun x hx => by
      refine ⟨by have := hm.keep.old x hx; have := hm.keep.size; omega, fun i o b h1 h2 h3 h4 => ?_⟩
      obtain ⟨j, h5, h6⟩ := hblk' i b h3
      exact hm.own j _ b (hmem i j o h1 h5) (by rw [mine_subR]; exact h2) h6 (h4 ▸ hx)
    have hM : RelM bp (ρ.sig σ) S' w pat.mem w := by
      refine ⟨by simp [bp, hbl], fun i o ho => ?_, fun i o b ho hmi hb hS => hS.2 i o b ho hmi hb rfl, fun i j o o' b b' hij ho ho' hmi hoc hb hb' => ?_, rfl, rfl, rfl, Nat.le_refl _, fun _ _ => rfl, fun _ h => h.1⟩
      · obtain ⟨j, hj, hmj, _⟩ := hget i o ho
        obtain ⟨b, hb, hr⟩ := hm.rel j _ hmj
        exact ⟨b, hblk i j b hj hb, (ORel.subR σ mem.length hbp0).1 hr⟩
      · obtain ⟨k, hk, hbk⟩ := hblk' i b hb
        obtain ⟨k', hk', hbk'⟩ := hblk' j b' hb'
        refine hm.apart k k' _ _ b b' (fun e => hij ?_) (hmem i k o ho hk) (hmem j k' o' ho' hk') (by rw [mine_subR]; exact hmi) ((Occ.subR σ _ _).2 hoc) hbk hbk'
        subst e
        exact hnd i j k hk hk'
    have hvs' : dvl bp (ρ.sig σ) pat.args = some vs := by rw [← dvl_subR σ mem.length hbp0, hargs]; exact hvs
    have hF' : ∀ j, 100 ≤ j → j < 200 → (ρ.sig σ).f j = F j := fun j hj hj2 => by
      have : renG j σ.g = j := by
        have key : ∀ l : List (Nat × Nat), l.all (fun p => decide (p.1 < 100)) = true → renG j l = j := by
          intro l
          induction l with
          | nil => intro _; rfl
          | cons p r ih =>
            intro h
            simp only [List.all_cons, Bool.and_eq_true, decide_eq_true_eq] at h
            obtain ⟨x, y⟩ := p
            simp only [renG]
            rw [if_neg (by have := h.1; simp only at this; omega)]
            exact ih h.2
        exact key σ.g hg
      show (fun l => ρ.f (renG j σ.g) l) = F j
      rw [this]
      exact hF j hj hj2
    refine (hs S' bp (ρ.sig σ) vs u m hSS hF' hvs' hM hpick).mono ?_
    rintro e w' ⟨ex, z, rfl, hz, hM'⟩
    refine ⟨ex, z, rfl, by rw [dv_subR σ mem.length (hbp ex)]; exact hz, ?_⟩
    have hlen' : (bp ++ ex).length = m.length := hM'.len
    have hexl : bs.length + ex.length = mem.length + (m.length - σ.b.length) := by
      have : bp.length = σ.b.length := by simp [bp]
      rw [List.length_append] at hlen'
      have := hm.len
      omega
    have hlt : ∀ (p : Nat) (o : AObj) (b : Ent), mem[p]? = some o → Occ ρ o → bs[p]? = some b → b.blk < w.heap.size := fun p o b h1 h2 h3 => by
      obtain ⟨b', h4, h5⟩ := hm.rel p o h1
      rw [h3] at h4; cases h4
      exact h5.lt h2
    -- three kinds of places
    have place : ∀ (p : Nat) (o : AObj), (placed σ mem m)[p]? = some o →
        (mem[p]? = some o ∧ (∀ d : Nat, σ.b[d]? ≠ some p) ∧ (bs ++ ex)[p]? = bs[p]?) ∨
        (∃ i q, m[i]? = some q ∧ o = q.subR σ mem.length ∧ (bs ++ ex)[p]? = (bp ++ ex)[i]? ∧ ((σ.b[i]? = some p) ∨ (σ.b.length ≤ i ∧ p = mem.length + (i - σ.b.length)))) := fun p o ho => by
      unfold placed at ho
      by_cases hp : p < mem.length
      · rw [List.getElem?_append_left (by simpa using hp)] at ho
        rw [List.getElem?_map, Option.map_eq_some_iff] at ho
        obtain ⟨⟨o1, p1⟩, h1, h2⟩ := ho
        rw [List.getElem?_zipIdx, Option.map_eq_some_iff] at h1
        obtain ⟨o2, h3, h4⟩ := h1
        simp only [Nat.zero_add, Prod.mk.injEq] at h4
        obtain ⟨rfl, rfl⟩ := h4
        simp only at h2
        split at h2
        · rename_i i hf
          obtain ⟨d, hd, hb⟩ := findB_some hf
          rw [Nat.zero_add] at hd; subst hd
          have hi : i < σ.b.length := (List.getElem?_eq_some_iff.1 hb).1
          have him : i < m.length := by omega
          refine .inr ⟨i, m[i], List.getElem?_eq_getElem him, ?_, ?_, .inl hb⟩
          · rw [← h2, List.getD_eq_getElem?_getD, List.getElem?_eq_getElem him]; rfl
          · have := hbp ex i
            unfold renB at this
            rw [hb] at this
            exact this
        · rename_i hf
          subst h2
          exact .inl ⟨h3, findB_none hf, List.getElem?_append_left (by rw [hm.len]; exact hp)⟩
      · rw [List.getElem?_append_right (by simp; omega)] at ho
        simp only [List.length_map, List.length_zipIdx] at ho
        rw [List.getElem?_map, Option.map_eq_some_iff] at ho
        obtain ⟨q, hq, rfl⟩ := ho
        rw [List.getElem?_drop] at hq
        refine .inr ⟨_, q, hq, rfl, ?_, .inr ⟨Nat.le_add_right _ _, by omega⟩⟩
        have := hbp ex (σ.b.length + (p - mem.length))
        unfold renB at this
        rw [List.getElem?_eq_none (show σ.b.length ≤ σ.b.length + (p - mem.length) by omega)] at this
        simp only at this
        rw [← this]
        congr 1
        omega
    -- a block of the call's own that is no kept one
    have mineOf : ∀ (i : Nat) (q : AObj) (b : Ent), m[i]? = some q → q.mine = true → (bp ++ ex)[i]? = some b → ¬ S' b.blk := fun i q b h1 h2 h3 => hM'.own i q b h1 h2 h3
    have occOld : ∀ (i : Nat) (q : AObj) (j : Nat), m[i]? = some q → Occ (ρ.sig σ) q → σ.b[i]? = some j → ∃ o, mem[j]? = some o ∧ Occ ρ o := fun i q j h1 h2 h3 => by
      have hi : i < pat.mem.length := by rw [← hbl]; exact (List.getElem?_eq_some_iff.1 h3).1
      obtain ⟨o, ho⟩ : ∃ o, pat.mem[i]? = some o := ⟨_, List.getElem?_eq_getElem hi⟩
      refine ⟨_, hmem i j o ho h3, (Occ.subR σ _ _).2 ?_⟩
      rcases hold i o q ho h1 with ⟨n, c, row, ty, rfl, rfl⟩ | hocc
      · exact h2
      · exact hocc _
    have kept : ∀ (p : Nat) (o : AObj) (b : Ent), mem[p]? = some o → Occ ρ o → (∀ d : Nat, σ.b[d]? ≠ some p) → bs[p]? = some b → S' b.blk := fun p o b h1 h2 h3 h4 => by
      refine ⟨hlt p o b h1 h2 h4, fun i q b1 h5 h6 h7 h8 => ?_⟩
      obtain ⟨j, h9, h10⟩ := hblk' i b1 h7
      exact hm.apart j p _ o b1 b (fun e => h3 i (e ▸ h9)) (hmem i j q h5 h9) h1 (by rw [mine_subR]; exact h6) h2 h10 h4 h8
    refine ⟨?_, fun p o ho => ?_, fun p o b ho hmi hb hS => ?_, fun p q o o' b b' hpq ho ho' hmi hoc hb hb' => ?_, ?_⟩
    · simp only [placed, List.length_append, List.length_map, List.length_zipIdx, List.length_drop]; omega
    · rcases place p o ho with ⟨h1, h2, h3⟩ | ⟨i, q, h1, rfl, h3, h4⟩
      · obtain ⟨b, hb, hr⟩ := hm.rel p o h1
        exact ⟨b, by rw [h3]; exact hb, (hr.same fun hoc => hM'.keep.block _ (kept p o b h1 hoc h2 hb)).mono ex⟩
      · obtain ⟨b, hb, hr⟩ := hM'.rel i q h1
        exact ⟨b, by rw [h3]; exact hb, (ORel.subR σ mem.length (hbp ex)).2 hr⟩
    · rcases place p o ho with ⟨h1, h2, h3⟩ | ⟨i, q, h1, rfl, h3, h4⟩
      · exact hm.own p o b h1 hmi (by rw [← h3]; exact hb) hS
      · rw [mine_subR] at hmi
        exact mineOf i q b h1 hmi (by rw [← h3]; exact hb) (hSS _ hS)
    · rcases place p o ho with ⟨h1, h2, h3⟩ | ⟨i, x, h1, rfl, h3, h4⟩ <;> rcases place q o' ho' with ⟨h1', h2', h3'⟩ | ⟨i', x', h1', rfl, h3', h4'⟩
      · exact hm.apart p q o o' b b' hpq h1 h1' hmi hoc (by rw [← h3]; exact hb) (by rw [← h3']; exact hb')
      · -- an old one of the caller's, and one of the call
        have hbp' : bs[p]? = some b := by rw [← h3]; exact hb
        have hbx : (bp ++ ex)[i']? = some b' := by rw [← h3']; exact hb'
        have hocx : Occ (ρ.sig σ) x' := (Occ.subR σ _ _).1 hoc
        rcases h4' with h4' | ⟨h4', _⟩
        · obtain ⟨o2, ho2, hoc2⟩ := occOld i' x' q h1' hocx h4'
          have hi' : i' < bp.length := by simp [bp]; exact (List.getElem?_eq_some_iff.1 h4').1
          rw [List.getElem?_append_left hi'] at hbx
          obtain ⟨j, hj, hbj⟩ := hblk' i' b' hbx
          rw [h4'] at hj; cases hj
          exact hm.apart p q o o2 b b' hpq h1 ho2 hmi hoc2 hbp' hbj
        · rcases hnew i' x' (by omega) h1' with hmx | rfl
          · intro e
            exact mineOf i' x' b' h1' hmx hbx (e ▸ kept p o b h1 (Occ.mine hmi) h2 hbp')
          · exact hocx.elim
      · rw [mine_subR] at hmi
        have hbx : (bp ++ ex)[i]? = some b := by rw [← h3]; exact hb
        intro e
        exact mineOf i x b h1 hmi hbx (e ▸ kept q o' b' h1' hoc h2' (by rw [← h3']; exact hb'))
      · rw [mine_subR] at hmi
        refine hM'.apart i i' x x' b b' (fun e => ?_) h1 h1' hmi ((Occ.subR σ _ _).1 hoc) (by rw [← h3]; exact hb) (by rw [← h3']; exact hb')
        subst e
        rcases h4 with h4 | ⟨h4, h5⟩ <;> rcases h4' with h4' | ⟨h4', h5'⟩
        · rw [h4] at h4'; cases h4'; exact hpq rfl
        · rw [List.getElem?_eq_none h4'] at h4; cases h4
        · rw [List.getElem?_eq_none h4] at h4'; cases h4'
        · exact hpq (by omega)
    · have hk := hM'.keep
      exact ⟨hk.os.trans hm.keep.os, hk.tape.trans hm.keep.tape, hk.output.trans hm.keep.output, Nat.le_trans hm.keep.size hk.size, fun x hx => (hk.block x (hSS x hx)).trans (hm.keep.block x hx), hm.keep.old⟩
  · cases hi

/-- A tree without loops, as a contract. -/
def Tree.toOut : Tree → Out
  | .ite c a b => .ite c a.toOut b.toOut
  | .need c a => .need c a.toOut
  | .leaf v m => .done v m
  | _ => .fail 22
theorem pick_toOut {v : AV} {m : List AObj} : ∀ {t : Tree}, t.toOut.pick ρ = some (v, m) → t.holds (fun _ _ => True) (fun _ v' m' => v' = v ∧ m' = m) ρ := by
  intro t
  induction t with
  | ite c a b iha ihb =>
    intro h
    simp only [Tree.toOut, Out.pick] at h
    refine ⟨fun hc => ?_, fun hc => ?_⟩
    · rw [if_pos hc] at h; exact iha h
    · rw [if_neg (by rw [hc]; simp)] at h; exact ihb h
  | need c a iha =>
    intro h
    simp only [Tree.toOut, Out.pick] at h
    split at h
    · rename_i hc; exact ⟨hc, iha h⟩
    · cases h
  | leaf v' m' => intro h; cases h; exact ⟨rfl, rfl⟩
  | both _ _ => intro h; cases h
  | fail _ => intro h; cases h
  | loop _ _ _ => intro h; cases h
  | again _ _ => intro h; cases h
/-- What is known of the letters. -/
def needs : List (SE × Bool) → Out → Out
  | [], o => o
  | (c, true) :: r, o => .need c (needs r o)
  | (c, false) :: r, o => .need (.not c) (needs r o)
theorem pick_needs {v : AV} {m : List AObj} {o : Out} : ∀ {pc : List (SE × Bool)}, (needs pc o).pick ρ = some (v, m) → (∀ p ∈ pc, evB ρ p.1 = p.2) ∧ o.pick ρ = some (v, m)
  | [], h => ⟨(fun _ h => by cases h), h⟩
  | (c, true) :: r, h => by
    simp only [needs, Out.pick] at h
    split at h
    · rename_i hc
      obtain ⟨h1, h2⟩ := pick_needs h
      exact ⟨fun p hp => (List.mem_cons.1 hp).elim (fun e => by rw [e]; exact hc) (h1 p), h2⟩
    · cases h
  | (c, false) :: r, h => by
    simp only [needs, Out.pick] at h
    split at h
    · rename_i hc
      obtain ⟨h1, h2⟩ := pick_needs h
      rw [ev_not] at hc
      exact ⟨fun p hp => (List.mem_cons.1 hp).elim (fun e => by rw [e]; exact hc) (h1 p), h2⟩
    · cases h

/-- The places that stay, in order; of the first k all do. -/
def keeps (mem : List AObj) (k : Nat) (v : AV) : List Nat :=
  let seen := reach mem 10000 (v.refs ++ (mem.take k).flatMap refsO) []
  (List.range mem.length).filter fun i => Nat.blt i k || seen.contains i
def gcLeaf (k : Nat) (v : AV) (mem : List AObj) : Tree :=
  let ks := keeps mem k v
  if gcOk ks mem v k = true then .leaf (v.ren (backI ks)) (gcAt ks mem) else .leaf v mem

/-- The tree of a call that is to be a contract: all of the memory behind it is told. -/
def callS (P : Program) (cfg : Cfg) (fuel f : Nat) (args : List AV) (mem : List AObj) (pc : List (SE × Bool)) : Tree :=
  match P.funcs[f]? with
  | none => .fail 100
  | some fn => match fn.body with
    | none => .fail 101
    | some c => runF P cfg fuel none (.code c) { slots := args.map some ++ List.replicate (fn.ntmps - args.length) (some (.tuple .nil)), mem, pc } fun ex st =>
      match ex with
      | .exit _ => .fail 102
      | _ => match resultA P fn st with
        | some v => gcLeaf mem.length v st.mem
        | none => .fail 103

theorem sum_run {cfg : Cfg} {F : Nat → List Int → Int} (hcfg : ∀ G : Nat → List Int → Int, (∀ j, 100 ≤ j → j < 200 → G j = F j) → CfgOk P cfg G (fun _ _ => True)) {fuel f : Nat} {pat : Pat} {pc : List (SE × Bool)} {t : Tree}
    (hT : callS P cfg fuel f pat.args pat.mem pc = t) (ho : pat.out = needs pc t.toOut) : SumOk P F f pat := by
  intro S w0 bs ρ w vs v mem' hF hvs hm hp
  rw [ho] at hp
  obtain ⟨hpc, hp⟩ := pick_needs hp
  have hT := hT ▸ pick_toOut hp
  have hcfg := hcfg ρ.f hF
  unfold callS at hT
  simp only [runF_eq] at hT
  split at hT
  · exact hT.elim
  · rename_i fn hfn
    split at hT
    · exact hT.elim
    · rename_i c hc
      have hlen := dvl_length hvs
      refine calls_of_wp (R := fun e w' => ∃ ex z, e = .returned z ∧ dv (bs ++ ex) ρ v = some z ∧ RelM (bs ++ ex) ρ S w0 mem' w') hfn hc ?_
      refine run_sound (S := S) (w0 := w0) hcfg trivial fuel [] none (.code c) _ _ bs ρ _ w _ (fun _ => True) (fun _ => True) ?_ rfl hT ?_ ?_ (fun _ _ _ _ _ _ _ h => by cases h)
      · refine ⟨by simp [hlen], ?_, rfl, hm, hpc⟩
        have := slots_map pat.args vs (fn.ntmps - pat.args.length) hvs
        simpa [hlen] using this
      · intro ρ' ex bs' st' a' w' hx hf hR' hT'
        obtain ⟨rfl, e1, rfl⟩ := hx
        have fin : (match resultA P fn st' with | some v => gcLeaf pat.mem.length v st'.mem | none => .fail 103).holds (fun _ _ => True) (fun _ v' m' => v' = v ∧ m' = mem') ρ' →
            a'.defers = [] ∧ ∃ y, (results fn a'.tmps).run P w' = .ok y w' ∧ ∃ ex z, Ending.returned y = .returned z ∧ dv (bs ++ ex) ρ' v = some z ∧ RelM (bs ++ ex) ρ' S w0 mem' w' := by
          intro hT'
          split at hT'
          · rename_i v1 hv
            obtain ⟨z, hz, hrun⟩ := resultA_sound (P := P) hR' hv
            unfold gcLeaf at hT'
            simp only at hT'
            split at hT'
            · rename_i hg
              obtain ⟨e2, e3⟩ := hT'
              obtain ⟨ex', h1, h2⟩ := gc_sound hg hz hR'.mem bs e1 rfl hm.len
              exact ⟨hR'.defers, z, hrun, ex', z, rfl, by rw [← e2]; exact h1, by rw [← e3]; exact h2⟩
            · obtain ⟨e2, e3⟩ := hT'
              exact ⟨hR'.defers, z, hrun, e1, z, rfl, by rw [← e2]; exact hz, by rw [← e3]; exact hR'.mem⟩
          · exact hT'.elim
        cases ex with
        | normal => exact fin hT'
        | ret => exact fin hT'
        | exit id => exact hT'.elim
      · rintro ch a' w' ⟨_, ex, z, h, _⟩
        cases h

/-! ### a contract in other letters -/
def OEq (ρ : Env) : AObj → AObj → Prop
  | .cells c ty own g, .cells c' ty' own' g' => ty = ty' ∧ own = own' ∧ g = g' ∧ ∀ bs, dvl bs ρ c = dvl bs ρ c'
  | o, o' => o = o'
def MEq (ρ : Env) (m m' : List AObj) : Prop := m.length = m'.length ∧ ∀ (i : Nat) o o', m[i]? = some o → m'[i]? = some o' → OEq ρ o o'
theorem MEq.refl (ρ : Env) (m : List AObj) : MEq ρ m m := ⟨rfl, fun i o o' h h' => by
  rw [h] at h'; cases h'
  cases o <;> first | exact ⟨rfl, rfl, rfl, fun _ => rfl⟩ | rfl⟩
theorem OEq.rel {b : Ent} {o o' : AObj} (h : OEq ρ o o') (hr : ORel bs ρ w b o) : ORel bs ρ w b o' := by
  cases o with
  | cells c ty own g => cases o' with
    | cells c' ty' own' g' =>
      obtain ⟨rfl, rfl, rfl, h⟩ := h
      obtain ⟨vs, tail, h1, h2⟩ := hr
      exact ⟨vs, tail, by rw [← h]; exact h1, h2⟩
    | sym => cases h
    | mp => cases h
    | iter => cases h
    | siter => cases h
    | dead => cases h
  | iter => cases o' <;> first | (cases h; done) | (cases h; exact hr)
  | siter => cases o' <;> first | (cases h; done) | (cases h; exact hr)
  | mp => cases o' <;> first | (cases h; done) | (cases h; exact hr)
  | sym => cases o' <;> first | (cases h; done) | (cases h; exact hr)
  | dead => cases o' <;> first | (cases h; done) | (cases h; exact hr)
theorem OEq.mine {o o' : AObj} (h : OEq ρ o o') : o'.mine = o.mine := by
  cases o <;> cases o' <;> first | (obtain ⟨_, h1, _⟩ := h; exact h1.symm) | (cases h; done) | (cases h; rfl)
theorem OEq.occ {o o' : AObj} (h : OEq ρ o o') : Occ ρ o' → Occ ρ o := by
  cases o <;> cases o' <;> first | exact fun _ => trivial | (cases h; done) | (cases h; exact id)
theorem RelM.eq {m m' : List AObj} (h : MEq ρ m m') (hm : RelM bs ρ S w0 m w) : RelM bs ρ S w0 m' w := by
  obtain ⟨hl, he⟩ := h
  have get : ∀ (i : Nat) (o' : AObj), m'[i]? = some o' → ∃ o, m[i]? = some o ∧ OEq ρ o o' := fun i o' ho' => by
    have hi : i < m.length := by rw [hl]; exact (List.getElem?_eq_some_iff.1 ho').1
    exact ⟨m[i], List.getElem?_eq_getElem hi, he i _ _ (List.getElem?_eq_getElem hi) ho'⟩
  refine ⟨by rw [hm.len, hl], fun i o' ho' => ?_, fun i o' b ho' hmi hb => ?_, fun i j o o' b b' hij ho ho' hmi hoc hb hb' => ?_, hm.keep⟩
  · obtain ⟨o, ho, h⟩ := get i o' ho'
    obtain ⟨b, hb, hr⟩ := hm.rel i o ho
    exact ⟨b, hb, h.rel hr⟩
  · obtain ⟨o, ho, h⟩ := get i o' ho'
    exact hm.own i o b ho (by rw [← h.mine]; exact hmi) hb
  · obtain ⟨q, hq, h⟩ := get i o ho
    obtain ⟨q', hq', h'⟩ := get j o' ho'
    exact hm.apart i j q q' b b' hij hq hq' (by rw [← h.mine]; exact hmi) (h'.occ hoc) hb hb'
theorem sum_refine {F : Nat → List Int → Int} {f : FuncId} {pat : Pat} {out' : Out} (h : SumOk P F f pat)
    (he : ∀ (ρ : Env) (bs : List Ent) (w : World) (vs : List Value) (v : AV) (m : List AObj), (∀ j, 100 ≤ j → j < 200 → ρ.f j = F j) → dvl bs ρ pat.args = some vs → MRel bs ρ pat.mem w → out'.pick ρ = some (v, m) →
      ∃ v' m', pat.out.pick ρ = some (v', m') ∧ (∀ bs, dv bs ρ v' = dv bs ρ v) ∧ MEq ρ m' m) : SumOk P F f ⟨pat.args, pat.mem, out'⟩ := by
  intro S w0 bs ρ w vs v m hF hvs hm hp
  obtain ⟨v', m', h1, h2, h3⟩ := he ρ bs w vs v m hF hvs hm.rel hp
  refine (h S w0 bs ρ w vs v' m' hF hvs hm h1).mono ?_
  rintro e w' ⟨ex, z, rfl, hz, hM⟩
  exact ⟨ex, z, rfl, by rw [← h2]; exact hz, hM.eq h3⟩
theorem dvl_ints {k : IntKind} {c c' : List SE} (h : c.map (den ρ) = c'.map (den ρ)) : dvl bs ρ (c.map (AV.int k)) = dvl bs ρ (c'.map (AV.int k)) := by
  induction c generalizing c' with
  | nil => cases c' with
    | nil => rfl
    | cons _ _ => simp at h
  | cons a r ih =>
    cases c' with
    | nil => simp at h
    | cons b s =>
      simp only [List.map_cons, List.cons.injEq] at h
      simp only [List.map_cons, dvl, dv, h.1, ih h.2]

theorem dvl_in {l : List AV} {vs : List Value} (h : dvl bs ρ l = some vs) {i : Nat} {k : IntKind} {e : SE} (hi : l[i]? = some (.int k e)) : inR k (den ρ e) = true := by
  obtain ⟨v, _, hv⟩ := dvl_get h hi
  exact (dv_int hv).2
theorem agg_in {l r : List AV} {vs : List Value} (h : dvl bs ρ (.agg (ofList l) :: r) = some vs) {i : Nat} {k : IntKind} {e : SE} (hi : l[i]? = some (.int k e)) : inR k (den ρ e) = true := by
  simp only [dvl, Option.bind_eq_some_iff] at h
  obtain ⟨x, hx, _⟩ := h
  simp only [dv, dvs_ofList, Option.map_eq_some_iff] at hx
  obtain ⟨us, hus, _⟩ := hx
  exact dvl_in hus hi
theorem dv_c {k : IntKind} {a b : SE} (h : den ρ a = den ρ b) : ∀ bs, dv bs ρ (.int k a) = dv bs ρ (.int k b) := fun bs => by simp only [dv, h]
theorem dvl_c {a b : AV} {l m : List AV} (h : ∀ bs, dv bs ρ a = dv bs ρ b) (h' : ∀ bs, dvl bs ρ l = dvl bs ρ m) : ∀ bs, dvl bs ρ (a :: l) = dvl bs ρ (b :: m) := fun bs => by simp only [dvl, h, h']
theorem dvl_e : ∀ bs, dvl bs ρ [] = dvl bs ρ [] := fun _ => rfl
/-- One block alone. -/
theorem meq_one {c c' : List AV} {ty : TypeId} {own : Bool} {g : Option Nat} (h : ∀ bs, dvl bs ρ c = dvl bs ρ c') : MEq ρ [.cells c ty own g] [.cells c' ty own g] := ⟨rfl, fun i o o' ho ho' => by
  cases i with
  | zero => cases ho; cases ho'; exact ⟨rfl, rfl, rfl, h⟩
  | succ i => simp at ho⟩

theorem dvs_c {a b l m : AV} (h : ∀ bs, dv bs ρ a = dv bs ρ b) (h' : ∀ bs, dvs bs ρ l = dvs bs ρ m) : ∀ bs, dvs bs ρ (.cons a l) = dvs bs ρ (.cons b m) := fun bs => by simp only [dvs, h, h']
theorem agg_c {l m : AV} (h : ∀ bs, dvs bs ρ l = dvs bs ρ m) : ∀ bs, dv bs ρ (.agg l) = dv bs ρ (.agg m) := fun bs => by simp only [dv, h]
theorem tuple_c {l m : AV} (h : ∀ bs, dvs bs ρ l = dvs bs ρ m) : ∀ bs, dv bs ρ (.tuple l) = dv bs ρ (.tuple m) := fun bs => by simp only [dv, h]
/-- Two contracts that ask the same, and come to the same. -/
def Out.Like (ρ : Env) : Out → Out → Prop
  | .ite c a b, .ite c' a' b' => c = c' ∧ (evB ρ c = true → a.Like ρ a') ∧ (evB ρ c = false → b.Like ρ b')
  | .ite c a b, .done v m => (evB ρ c = true → a.Like ρ (.done v m)) ∧ (evB ρ c = false → b.Like ρ (.done v m))
  | .need c a, o' => evB ρ c = true ∧ a.Like ρ o'
  | .done v m, .done v' m' => (∀ bs, dv bs ρ v = dv bs ρ v') ∧ MEq ρ m m'
  | _, .fail _ => True
  | _, _ => False
theorem like_pick : ∀ {o o' : Out} {v : AV} {m : List AObj}, o.Like ρ o' → o'.pick ρ = some (v, m) → ∃ v' m', o.pick ρ = some (v', m') ∧ (∀ bs, dv bs ρ v' = dv bs ρ v) ∧ MEq ρ m' m := by
  intro o
  induction o with
  | ite c a b iha ihb =>
    intro o' v m h hp
    cases o' with
    | ite c' a' b' =>
      obtain ⟨rfl, h1, h2⟩ := h
      simp only [Out.pick] at hp ⊢
      cases hc : evB ρ c with
      | true => rw [hc] at hp; exact iha (h1 hc) hp
      | false => rw [hc] at hp; exact ihb (h2 hc) hp
    | need _ _ => cases h
    | done v1 m1 =>
      obtain ⟨h1, h2⟩ := h
      simp only [Out.pick]
      cases hc : evB ρ c with
      | true => exact iha (h1 hc) hp
      | false => exact ihb (h2 hc) hp
    | fail _ => cases hp
  | need c a iha =>
    intro o' v m h hp
    obtain ⟨h1, h2⟩ := h
    simp only [Out.pick, h1, if_true]
    exact iha h2 hp
  | done v0 m0 =>
    intro o' v m h hp
    cases o' with
    | done v1 m1 => cases hp; exact ⟨v0, m0, rfl, h.1, h.2⟩
    | ite _ _ _ => cases h
    | need _ _ => cases h
    | fail _ => cases hp
  | fail n =>
    intro o' v m h hp
    cases o' with
    | fail _ => cases hp
    | ite _ _ _ => cases h
    | need _ _ => cases h
    | done _ _ => cases h
/-- The members of an argument's row are numbers of their kind. -/
theorem sym_in {mem : List AObj} (hm : MRel bs ρ mem w) {i : Nat} {n cap : SE} {row : List Col} {ty : TypeId} (ho : mem[i]? = some (.sym n cap row ty)) {j : Nat} {k : IntKind} {g : Nat} (hj : row[j]? = some (.int k g)) (x : Int) (h0 : 0 ≤ x) (h1 : x < den ρ cap) :
    inR k (ρ.f g [x]) = true := by
  obtain ⟨b, _, _, _, _, _, _, h⟩ := hm i _ ho
  obtain ⟨_, _, h⟩ := h (by omega)
  have := (h x.toNat j _ (by omega) hj).2
  have e : ((x.toNat : Nat) : Int) = x := by omega
  rw [e] at this
  exact this
theorem sym_len {mem : List AObj} (hm : MRel bs ρ mem w) {i : Nat} {n cap : SE} {row : List Col} {ty : TypeId} (ho : mem[i]? = some (.sym n cap row ty)) : 0 ≤ den ρ n ∧ den ρ n ≤ den ρ cap := by
  obtain ⟨b, _, _, _, h1, h2, _⟩ := hm i _ ho
  exact ⟨h1, h2⟩
theorem inst_sound {F : Nat → List Int → Int} {f : FuncId} {pat : Pat} (hs : SumOk P F f pat) {args : List AV} {mem : List AObj} {out : Out} (hi : inst pat args mem = some out)
    {vs : List Value} {v : AV} {mem' : List AObj} (hF : ∀ j, 100 ≤ j → j < 200 → ρ.f j = F j) (hvs : dvl bs ρ args = some vs) (hm : RelM bs ρ S w0 mem w) (hp : out.pick ρ = some (v, mem')) : Comes P S w0 bs ρ f vs w v mem' :=
  inst_core (fun S' bs' ρ' vs' v' m' _ h1 h2 h3 h4 => hs S' w bs' ρ' w vs' v' m' h1 h2 h3 h4) hi hF hvs hm hp
/-- What is known of the world at the start, besides: it stays so, as long as what it speaks of is kept. -/
def Stays (N : (Nat → Prop) → World → Prop) : Prop := ∀ (S S' : Nat → Prop) (w0 w : World), N S w0 → (∀ x, S x → S' x) → (∀ x, S x → w.heap[x]? = w0.heap[x]?) → N S' w
def SumOkN (P : Program) (F : Nat → List Int → Int) (N : (Nat → Prop) → World → Prop) (f : FuncId) (pat : Pat) : Prop :=
  ∀ (S : Nat → Prop) (w0 : World) (bs : List Ent) (ρ : Env) (w : World) (vs : List Value) (v : AV) (mem' : List AObj), N S w0 → (∀ j, 100 ≤ j → j < 200 → ρ.f j = F j) → dvl bs ρ pat.args = some vs → RelM bs ρ S w0 pat.mem w →
    pat.out.pick ρ = some (v, mem') → Comes P S w0 bs ρ f vs w v mem'
theorem instN_sound {F : Nat → List Int → Int} {N : (Nat → Prop) → World → Prop} (hst : Stays N) {f : FuncId} {pat : Pat} (hs : SumOkN P F N f pat) (hN : N S w0) {args : List AV} {mem : List AObj} {out : Out} (hi : inst pat args mem = some out)
    {vs : List Value} {v : AV} {mem' : List AObj} (hF : ∀ j, 100 ≤ j → j < 200 → ρ.f j = F j) (hvs : dvl bs ρ args = some vs) (hm : RelM bs ρ S w0 mem w) (hp : out.pick ρ = some (v, mem')) : Comes P S w0 bs ρ f vs w v mem' :=
  inst_core (fun S' bs' ρ' vs' v' m' hSS h1 h2 h3 h4 => hs S' w bs' ρ' w vs' v' m' (hst S S' w0 w hN hSS hm.keep.block) h1 h2 h3 h4) hi hF hvs hm hp
/-- The contracts of a text, tried one after the other. -/
def sumsOf (l : List (FuncId × Pat)) (f : FuncId) (args : List AV) (mem : List AObj) : Option Out :=
  match l with
  | [] => none
  | (g, pat) :: r => if Nat.beq g f = true then match inst pat args mem with
      | some out => some out
      | none => sumsOf r f args mem
    else sumsOf r f args mem
theorem sumsOf_sound {F : Nat → List Int → Int} {l : List (FuncId × Pat)} (hl : ∀ p ∈ l, SumOk P F p.1 p.2) {f : FuncId} {args : List AV} {mem : List AObj} {out : Out} (h : sumsOf l f args mem = some out)
    {vs : List Value} {v : AV} {mem' : List AObj} (hF : ∀ j, 100 ≤ j → j < 200 → ρ.f j = F j) (hvs : dvl bs ρ args = some vs) (hm : RelM bs ρ S w0 mem w) (hp : out.pick ρ = some (v, mem')) : Comes P S w0 bs ρ f vs w v mem' := by
  induction l with
  | nil => cases h
  | cons p r ih =>
    obtain ⟨g, pat⟩ := p
    have ih := ih (fun q hq => hl q (List.mem_cons_of_mem _ hq))
    simp only [sumsOf] at h
    split at h
    · rename_i he
      have he := Nat.eq_of_beq_eq_true he
      subst he
      split at h
      · rename_i o ho
        cases h
        exact inst_sound (hl (g, pat) (List.mem_cons_self ..)) ho hF hvs hm hp
      · exact ih h
    · exact ih h
theorem sumsOfN_sound {F : Nat → List Int → Int} {N : (Nat → Prop) → World → Prop} (hst : Stays N) {l : List (FuncId × Pat)} (hl : ∀ p ∈ l, SumOkN P F N p.1 p.2) (hN : N S w0) {f : FuncId} {args : List AV} {mem : List AObj} {out : Out} (h : sumsOf l f args mem = some out)
    {vs : List Value} {v : AV} {mem' : List AObj} (hF : ∀ j, 100 ≤ j → j < 200 → ρ.f j = F j) (hvs : dvl bs ρ args = some vs) (hm : RelM bs ρ S w0 mem w) (hp : out.pick ρ = some (v, mem')) : Comes P S w0 bs ρ f vs w v mem' := by
  induction l with
  | nil => cases h
  | cons p r ih =>
    obtain ⟨g, pat⟩ := p
    have ih := ih (fun q hq => hl q (List.mem_cons_of_mem _ hq))
    simp only [sumsOf] at h
    split at h
    · rename_i he
      have he := Nat.eq_of_beq_eq_true he
      subst he
      split at h
      · rename_i o ho
        cases h
        exact instN_sound hst (hl (g, pat) (List.mem_cons_self ..)) hN ho hF hvs hm hp
      · exact ih h
    · exact ih h
/-- Contracts by hand: a value, the memory as it was. -/
def CusOk (P : Program) (F : Nat → List Int → Int) (cus : FuncId → List AV → Option AV) : Prop :=
  ∀ (f : FuncId) (args : List AV) (v : AV), cus f args = some v → ∀ (bs : List Ent) (ρ : Env) (w : World) (vs : List Value), (∀ j, 100 ≤ j → j < 200 → ρ.f j = F j) → dvl bs ρ args = some vs →
    ∃ z, dv bs ρ v = some z ∧ Calls P f vs.toArray w fun e w' => e = .returned z ∧ RowKit.Below w.heap.size w w'
def sums2 (cus : FuncId → List AV → Option AV) (l : List (FuncId × Pat)) (f : FuncId) (args : List AV) (mem : List AObj) : Option Out :=
  match cus f args with
  | some v => some (.done v mem)
  | none => sumsOf l f args mem
theorem sums2_sound {F : Nat → List Int → Int} {cus : FuncId → List AV → Option AV} (hc : CusOk P F cus) {l : List (FuncId × Pat)} (hl : ∀ p ∈ l, SumOk P F p.1 p.2) {f : FuncId} {args : List AV} {mem : List AObj} {out : Out}
    (h : sums2 cus l f args mem = some out) {vs : List Value} {v : AV} {mem' : List AObj} (hF : ∀ j, 100 ≤ j → j < 200 → ρ.f j = F j) (hvs : dvl bs ρ args = some vs) (hm : RelM bs ρ S w0 mem w) (hp : out.pick ρ = some (v, mem')) : Comes P S w0 bs ρ f vs w v mem' := by
  unfold sums2 at h
  split at h
  · rename_i u hu
    cases h
    cases hp
    obtain ⟨z, hz, hcalls⟩ := hc f args v hu bs ρ w vs hF hvs
    refine hcalls.mono ?_
    rintro e w' ⟨rfl, hb⟩
    exact ⟨[], z, rfl, by rw [List.append_nil]; exact hz, by rw [List.append_nil]; exact hm.below hb⟩
  · exact sumsOf_sound hl h hF hvs hm hp
/-- What says a value of the call, and leaves the memory. -/
theorem comes_of_below {f : FuncId} {vs : List Value} {v : AV} {mem : List AObj} {z : Value} (hm : RelM bs ρ S w0 mem w) (hz : dv bs ρ v = some z) (h : Calls P f vs.toArray w fun e w' => e = .returned z ∧ RowKit.Below w.heap.size w w') :
    Comes P S w0 bs ρ f vs w v mem := by
  refine h.mono ?_
  rintro e w' ⟨rfl, hb⟩
  exact ⟨[], z, rfl, by rw [List.append_nil]; exact hz, by rw [List.append_nil]; exact hm.below hb⟩
end Go.SX

/- Symbolic execution of the model's code: a call whose orders all come to one end, as a contract. -/
namespace Go.SX
set_option linter.unusedSimpArgs false
set_option linter.unusedVariables false
variable {P : Program} {ρ : Env}
theorem sum_one {cfg : Cfg} {F : Nat → List Int → Int} {N : (Nat → Prop) → World → Prop} (hcfg : ∀ G : Nat → List Int → Int, (∀ j, 100 ≤ j → j < 200 → G j = F j) → CfgOk P cfg G N) {fuel f : Nat} {args : List AV} {mem m : List AObj} {v : AV}
    (hT : (callS P cfg fuel f args mem []).one = some (v, m)) {S : Nat → Prop} {w0 w : World} (hN : N S w0) {bs : List Ent} {vs : List Value} (hF : ∀ j, 100 ≤ j → j < 200 → ρ.f j = F j) (hvs : dvl bs ρ args = some vs) (hm : RelM bs ρ S w0 mem w) :
    Comes P S w0 bs ρ f vs w v m := by
  have hT := one_holds (ρ := ρ) (I := fun _ _ => True) hT
  have hcfg := hcfg ρ.f hF
  unfold callS at hT
  simp only [runF_eq] at hT
  split at hT
  · exact hT.elim
  · rename_i fn hfn
    split at hT
    · exact hT.elim
    · rename_i c hc
      have hlen := dvl_length hvs
      refine calls_of_wp (R := fun e w' => ∃ ex z, e = .returned z ∧ dv (bs ++ ex) ρ v = some z ∧ RelM (bs ++ ex) ρ S w0 m w') hfn hc ?_
      refine run_sound (S := S) (w0 := w0) hcfg hN fuel [] none (.code c) _ _ bs ρ _ w _ (fun _ => True) (fun _ => True) ?_ rfl hT ?_ ?_ (fun _ _ _ _ _ _ _ h => by cases h)
      · refine ⟨by simp [hlen], ?_, rfl, hm, fun p hp => by cases hp⟩
        have := slots_map args vs (fn.ntmps - args.length) hvs
        simpa [hlen] using this
      · intro ρ' ex bs' st' a' w' hx hf hR' hT'
        obtain ⟨rfl, e1, rfl⟩ := hx
        have fin : (match resultA P fn st' with | some v => gcLeaf mem.length v st'.mem | none => .fail 103).holds (fun _ _ => True) (fun _ v' m' => v' = v ∧ m' = m) ρ' →
            a'.defers = [] ∧ ∃ y, (results fn a'.tmps).run P w' = .ok y w' ∧ ∃ ex z, Ending.returned y = .returned z ∧ dv (bs ++ ex) ρ' v = some z ∧ RelM (bs ++ ex) ρ' S w0 m w' := by
          intro hT'
          split at hT'
          · rename_i v1 hv
            obtain ⟨z, hz, hrun⟩ := resultA_sound (P := P) hR' hv
            unfold gcLeaf at hT'
            simp only at hT'
            split at hT'
            · rename_i hg
              obtain ⟨e2, e3⟩ := hT'
              obtain ⟨ex', h1, h2⟩ := gc_sound hg hz hR'.mem bs e1 rfl hm.len
              exact ⟨hR'.defers, z, hrun, ex', z, rfl, by rw [← e2]; exact h1, by rw [← e3]; exact h2⟩
            · obtain ⟨e2, e3⟩ := hT'
              exact ⟨hR'.defers, z, hrun, e1, z, rfl, by rw [← e2]; exact hz, by rw [← e3]; exact hR'.mem⟩
          · exact hT'.elim
        cases ex with
        | normal => exact fin hT'
        | ret => exact fin hT'
        | exit id => exact hT'.elim
      · rintro ch a' w' ⟨_, ex, z, h, _⟩
        cases h
/-- What a call comes to with everything known, as a contract. -/
theorem sumN_one {cfg : Cfg} {F : Nat → List Int → Int} {N : (Nat → Prop) → World → Prop} (hcfg : ∀ G : Nat → List Int → Int, (∀ j, 100 ≤ j → j < 200 → G j = F j) → CfgOk P cfg G N) {fuel f : Nat} {args : List AV} {mem m : List AObj} {v : AV}
    (hT : (callS P cfg fuel f args mem []).one = some (v, m)) : SumOkN P F N f ⟨args, mem, .done v m⟩ := by
  intro S w0 bs ρ w vs v' m' hN hF hvs hm hp
  cases hp
  exact sum_one hcfg hT hN hF hvs hm
end Go.SX

/- Symbolic execution of the model's code: a call in pieces; a drawn region whose table is known by its levels. -/
namespace Go.SX
set_option linter.unusedSimpArgs false
set_option linter.unusedVariables false
variable {δ : List Deferred} {P : Program} {ρ : Env} {cfg : Cfg} {F : Nat → List Int → Int} {N : (Nat → Prop) → World → Prop} {S : Nat → Prop} {w0 w : World} {bs : List Ent} {Q : Exit → Act → World → Prop}

/-- A piece of code that comes to one state. -/
def pieceT (P : Program) (cfg : Cfg) (fuel : Nat) (c : Code) (k : Nat) (st : ASt) : Option ASt := decoS (runF P cfg fuel none (.code c) st (endK k)).one
theorem piece_sound (hcfg : CfgOk P cfg F N) (hN : N S w0) {fuel : Nat} {c : Code} {st st' : ASt} (h : pieceT P cfg fuel c bs.length st = some st') {e0 : List Ent} {a : Act} (hR : RelS δ (bs ++ e0) ρ S w0 st a w) (hρ : ρ.f = F)
    (hP : ∀ c a w, ¬ Q (.panic c) a w) (hK : ∀ (e1 : List Ent) (a' : Act) (w' : World), RelS δ (bs ++ e1) ρ S w0 st' a' w' → Q .normal a' w') : c.wp P Q a w := by
  unfold pieceT at h
  rw [runF_eq] at h
  obtain ⟨v, m, hone⟩ : ∃ v m, (run P cfg fuel none (.code c) st (endK bs.length)).one = some (v, m) := by
    cases ho : (run P cfg fuel none (.code c) st (endK bs.length)).one with
    | none => rw [ho] at h; cases h
    | some p => exact ⟨p.1, p.2, rfl⟩
  rw [hone] at h
  have hhold := one_holds (ρ := ρ) (I := fun _ _ => True) hone
  refine run_sound hcfg hN fuel _ none (.code c) st _ (bs ++ e0) ρ a w Q (fun _ => True) (fun _ => True) hR hρ hhold ?_ hP (fun _ _ _ _ _ _ _ h => by cases h)
  intro ρ' ex bs' st1 a2 w2 hx hf hR2 hT2
  obtain ⟨rfl, e1, hbs'⟩ := hx
  cases ex with
  | normal =>
    have hbs2 : bs' = bs ++ (e0 ++ e1) := by rw [hbs', List.append_assoc]
    subst hbs2
    simp only [endK] at hT2
    obtain ⟨e2, hR3⟩ := endA_sound hR2 h hT2
    exact hK e2 _ _ hR3
  | exit id => exact hT2.elim
  | ret => exact hT2.elim

/-- A drawn region, by its table. -/
def stepA (P : Program) (cfg : Cfg) (fuel : Nat) (ops : Array Oper) (k : Nat) : Nat → ASt → Option ASt := fun i st' => decoS (runF P cfg fuel none (.oper ops i) st' (endK k)).one
theorem region_sound (hcfg : CfgOk P cfg F N) (hN : N S w0) {fuel id : Nat} {ops : Array Oper} {ds ks : List Nat} {st stf : ASt} (hst : startT P ops ds st.mem (strike st.mem ks) (stepA P cfg fuel ops st.mem.length) st = some stf)
    {a : Act} (hR : RelS δ bs ρ S w0 st a w) (hρ : ρ.f = F) (hP : ∀ c a w, ¬ Q (.panic c) a w) (hK : ∀ (e1 : List Ent) (a' : Act) (w' : World), RelS δ (bs ++ e1) ρ S w0 stf a' w' → Q .normal a' w') : (Code.region id ops true).wp P Q a w := by
  have hR' : RelS δ bs ρ S w0 st a { w with drawn := w.drawn + 1 } := ⟨hR.size, hR.slot, hR.defers, hR.mem.drew, hR.pc⟩
  have hm1 := strike_sound ks hR'.mem.rel
  unfold startT at hst
  split at hst
  · cases hst
  · rename_i e hsat
    have hm0 := hR'.mem.rel
    obtain ⟨hk, hs⟩ := satT_sound (Q := Q) (bs0 := bs) (e0 := []) hP hm1 (fun _ => hm0) hsat
    refine wp_region_two hcfg.mixed (hs (by rw [List.append_nil]; exact hR') fun a' hRa => ?_)
    refine tblT_sound (bs0 := bs) hP ?_ ?_ hst e (List.mem_singleton.2 rfl) [] a' _ hRa hm1 (fun _ => hm0) hm0
    · intro i st1 st2 hs12 e0 a1 w1 Kw hR1 hKw
      unfold stepA at hs12
      rw [runF_eq] at hs12
      obtain ⟨v, m, hone⟩ : ∃ v m, (run P cfg fuel none (.oper ops i) st1 (endK st.mem.length)).one = some (v, m) := by
        cases ho : (run P cfg fuel none (.oper ops i) st1 (endK st.mem.length)).one with
        | none => rw [ho] at hs12; cases hs12
        | some p => exact ⟨p.1, p.2, rfl⟩
      rw [hone] at hs12
      have hhold := one_holds (ρ := ρ) (I := fun _ _ => True) hone
      refine wpOp_swap (Q := Exit.then Kw Q) (run_sound hcfg hN fuel _ none (.oper ops i) st1 _ (bs ++ e0) ρ a1 w1 (Exit.then Kw Q) (fun _ => True) (fun _ => True) hR1 hρ hhold ?_ (fun c a w h => hP c a w h) (fun _ _ _ _ _ _ _ h => by cases h)) (fun c a w h => hP c a w h) (fun a w h => h)
      intro ρ' ex bs' st' a2 w2 hx hf hR2 hT2
      obtain ⟨rfl, e1, hbs'⟩ := hx
      cases ex with
      | normal =>
        have hbs2 : bs' = bs ++ (e0 ++ e1) := by rw [hbs', List.append_assoc]
        subst hbs2
        have hlen : st.mem.length = bs.length := hR.mem.len.symm
        simp only [endK, hlen] at hT2
        obtain ⟨e2, hR3⟩ := endA_sound hR2 hs12 hT2
        exact hKw e2 _ _ hR3
      | exit id => exact hT2.elim
      | ret => exact hT2.elim
    · intro e0 a1 w1 hR1
      exact hK e0 a1 w1 hR1

theorem tbl_next {ops : Array Oper} {ds : List Nat} {m0 m1 : List AObj} {step : Nat → ASt → Option ASt} {f : Nat} {es es' : List TE} {stf : ASt} (hd : doneT ops es = none) (hn : nextT P ops ds m0 m1 step es [] = some es') (h : tblT P ops ds m0 m1 step f es' = some stf) :
    tblT P ops ds m0 m1 step (f + 1) es = some stf := by
  simp only [tblT, hd, hn, h]
theorem tbl_done {ops : Array Oper} {ds : List Nat} {m0 m1 : List AObj} {step : Nat → ASt → Option ASt} {f : Nat} {es : List TE} {stf : ASt} (hd : doneT ops es = some stf) : tblT P ops ds m0 m1 step (f + 1) es = some stf := by
  simp only [tblT, hd]
theorem start_tbl {ops : Array Oper} {ds : List Nat} {m0 m1 : List AObj} {step : Nat → ASt → Option ASt} {st stf : ASt} {e : TE} (hs : satT P ops ds m0 m1 true ops.size (Array.replicate ops.size false) st = some e) (h : tblT P ops ds m0 m1 step (ops.size + 1) [e] = some stf) :
    startT P ops ds m0 m1 step st = some stf := by
  simp only [startT, hs, h]

/-- The rest of a call: from a state on, to its one end. -/
def restT (P : Program) (cfg : Cfg) (fuel : Nat) (fn : Func) (k : Nat) (c : Code) (st : ASt) : Tree :=
  runF P cfg fuel none (.code c) st fun ex st =>
    match ex with
    | .exit _ => .fail 102
    | _ => match resultA P fn st with
      | some v => gcLeaf k v st.mem
      | none => .fail 103
theorem rest_sound (hcfg : CfgOk P cfg F N) (hN : N S w0) {fuel : Nat} {fn : Func} {c : Code} {st : ASt} {v : AV} {m : List AObj} (h : (restT P cfg fuel fn bs.length c st).one = some (v, m)) {e0 : List Ent} {a : Act} (hR : RelS [] (bs ++ e0) ρ S w0 st a w) (hρ : ρ.f = F) :
    c.wp P (bodyPost P fn fun e w' => ∃ ex z, e = .returned z ∧ dv (bs ++ ex) ρ v = some z ∧ RelM (bs ++ ex) ρ S w0 m w') a w := by
  have hT := one_holds (ρ := ρ) (I := fun _ _ => True) h
  unfold restT at hT
  rw [runF_eq] at hT
  refine run_sound hcfg hN fuel _ none (.code c) st _ (bs ++ e0) ρ a w _ (fun _ => True) (fun _ => True) hR hρ hT ?_ ?_ (fun _ _ _ _ _ _ _ h => by cases h)
  · intro ρ' ex bs' st' a' w' hx hf hR' hT'
    obtain ⟨rfl, e1, rfl⟩ := hx
    have fin : (match resultA P fn st' with | some v => gcLeaf bs.length v st'.mem | none => .fail 103).holds (fun _ _ => True) (fun _ v' m' => v' = v ∧ m' = m) ρ' →
        a'.defers = [] ∧ ∃ y, (results fn a'.tmps).run P w' = .ok y w' ∧ ∃ ex z, Ending.returned y = .returned z ∧ dv (bs ++ ex) ρ' v = some z ∧ RelM (bs ++ ex) ρ' S w0 m w' := by
      intro hT'
      split at hT'
      · rename_i v1 hv
        obtain ⟨z, hz, hrun⟩ := resultA_sound (P := P) hR' hv
        unfold gcLeaf at hT'
        simp only at hT'
        split at hT'
        · rename_i hg
          obtain ⟨e2, e3⟩ := hT'
          obtain ⟨ex', h1, h2⟩ := gc_sound hg hz hR'.mem bs (e0 ++ e1) (by rw [List.append_assoc]) rfl
          exact ⟨hR'.defers, z, hrun, ex', z, rfl, by rw [← e2]; exact h1, by rw [← e3]; exact h2⟩
        · obtain ⟨e2, e3⟩ := hT'
          exact ⟨hR'.defers, z, hrun, e0 ++ e1, z, rfl, by rw [← List.append_assoc, ← e2]; exact hz, by rw [← List.append_assoc, ← e3]; exact hR'.mem⟩
      · exact hT'.elim
    cases ex with
    | normal => exact fin hT'
    | ret => exact fin hT'
    | exit id => exact hT'.elim
  · rintro ch a' w' ⟨_, ex, z, h, _⟩
    cases h
/-- A call's start. -/
def begA (fn : Func) (args : List AV) (mem : List AObj) : ASt := { slots := args.map some ++ List.replicate (fn.ntmps - args.length) (some (.tuple .nil)), mem, pc := [] }
theorem comes_of_wp {f : FuncId} {fn : Func} {c : Code} (hfn : P.funcs[f]? = some fn) (hc : fn.body = some c) {args : List AV} {mem m : List AObj} {v : AV} {vs : List Value} (hvs : dvl bs ρ args = some vs) (hm : RelM bs ρ S w0 mem w)
    (h : ∀ a, RelS [] bs ρ S w0 (begA fn args mem) a w → c.wp P (bodyPost P fn fun e w' => ∃ ex z, e = .returned z ∧ dv (bs ++ ex) ρ v = some z ∧ RelM (bs ++ ex) ρ S w0 m w') a w) : Comes P S w0 bs ρ f vs w v m := by
  have hlen := dvl_length hvs
  refine calls_of_wp (R := fun e w' => ∃ ex z, e = .returned z ∧ dv (bs ++ ex) ρ v = some z ∧ RelM (bs ++ ex) ρ S w0 m w') hfn hc (h _ ?_)
  refine ⟨by simp [begA, hlen], ?_, rfl, hm, fun p hp => by cases hp⟩
  have := slots_map args vs (fn.ntmps - args.length) hvs
  simpa [begA, hlen] using this
/-- One piece behind another. -/
theorem wp_seq_piece {x y : Code} {a : Act} (h : x.wp P (fun e a' w' => e = .normal ∧ y.wp P Q a' w') a w) : (Code.seq x y).wp P Q a w :=
  wp_seq (wp_mono h fun e a' w' ⟨he, h⟩ => by subst he; exact h)
end Go.SX

/- Symbolic execution of the model's code: code within a round of a range over a function, and code that calls yield. -/
namespace Go.SX
set_option linter.unusedSimpArgs false
set_option linter.unusedVariables false
variable {δ : List Deferred} {P : Program} {ρ : Env} {cfg : Cfg} {F : Nat → List Int → Int} {N : (Nat → Prop) → World → Prop} {S : Nat → Prop} {w0 w : World} {bs : List Ent} {Q : Exit → Act → World → Prop}

/-- The wide fence, of frames that are a round's, or none's. -/
def FR (ro : Option Nat) : Fence := { Fence.wide with round := ro }
theorem callsIn_FR {ro : Option Nat} {n : Nat} {f : FuncId} {args : Array Value} {R : Ending → World → Prop} (h : Calls P f args w R) : CallsIn (FR ro) n P f args w R :=
  let h' : CallsIn Fence.wide n P f args w R := callsIn_wide.2 h
  h'
theorem rowsIn_FR {ro : Option Nat} {n : Nat} {r : String} {args : Array Value} {R : Value → World → Prop} (h : Rows P r args w R) : RowsIn (FR ro) n P r args w R := fun c cs _ =>
  let ⟨v, w', h1, h2⟩ := h c cs
  ⟨v, w', h1, (stepsIn_wide (P := P)).2 h2⟩

/-- One operation, of which the plain word is known, in the list of a region. -/
theorem opIn {ops : Array Oper} {i n : Nat} {rest : List Nat} {ro : Option Nat} {K : Act → World → Prop} {a : Act} (hnd : ∀ o, ops[i]? = some o → ∀ c, o.op ≠ .defer c)
    (h : wpOp P ops (fun e a w => e = .normal ∧ K a w) i (fun a' w' => Exit.normal = Exit.normal ∧ K a' w') a w)
    (hd : ∀ a' w', K a' w' → a'.defers = a.defers) (hK : ∀ a' w', K a' w' → wpOpsIn (FR ro) n P ops Q rest a' w') : wpOpsIn (FR ro) n P ops Q (i :: rest) a w := by
  simp only [wpOpsIn]
  unfold wpOp at h
  split at h
  · rename_i ho
    rw [ho]
    exact hK _ _ h.2
  · rename_i o ho
    rw [ho]
    simp only
    split at h
    · rename_i hw
      rw [if_pos hw]
      refine ⟨fun _ _ => trivial, ?_⟩
      rcases h with h | ⟨_, a1, w1, h1, _⟩
      · rw [Oper.semAt_eq _ _ _ (hnd o ho)]
        unfold Oper.wp at h
        generalize (execOp a.eval o).run P w = r at h ⊢
        cases r with
        | ok nx w' =>
          cases nx with
          | value v => exact hK _ _ h.2
          | skip => exact hK _ _ h.2
          | defer d =>
            have h1 := hd _ _ h.2
            exfalso
            cases hdst : o.dst <;> rw [hdst] at h1 <;> simp [Act.put] at h1
          | enter f args =>
            refine ⟨fun h => (by cases h), callsIn_FR (Calls.mono h ?_)⟩
            intro e w1 h1
            cases e with
            | returned v => exact hK _ _ h1.2
            | panicked c => cases h1.1
            | outgrown => obtain ⟨_, _, h2, _⟩ := h1; cases h2
          | row r args => exact ⟨fun h => (by cases h), rowsIn_FR (Rows.mono h fun v w1 h1 => hK _ _ h1.2)⟩
          | _ => exact h.elim
        | halt hl w' =>
          cases hl with
          | panic v => exact absurd h.1 (by intro h; cases h)
          | _ => exact h.elim
      · cases h1
    · rename_i hw
      rw [if_neg hw]
      exact ⟨fun _ _ => trivial, hK _ _ h.2⟩

/-- What a call of yield comes to, told of its arguments and the memory. -/
abbrev Yld := List AV → List AObj → Option (AV × List AObj)
def YOk (P : Program) (bs : List Ent) (ρ : Env) (S : Nat → Prop) (w0 : World) (y : Yld) (l : Nat) : Prop :=
  ∀ (m : Nat) (args : List AV) (mem : List AObj) (v : AV) (mem' : List AObj), y args mem = some (v, mem') → ∀ (e0 : List Ent) (w : World) (vs : List Value), dvl (bs ++ e0) ρ args = some vs → RelM (bs ++ e0) ρ S w0 mem w →
    YieldAt Fence.wide m P l vs.toArray w fun e w' => ∃ ex z, e = .returned z ∧ dv (bs ++ (e0 ++ ex)) ρ v = some z ∧ RelM (bs ++ (e0 ++ ex)) ρ S w0 mem' w'
def yldOp (ops : Array Oper) (i : Nat) (st : ASt) : Option (Nat × List AV × Option Tmp) := match ops[i]? with
  | some o => match guardA ops st.slots o with
    | .yes => match o.op with
      | .call c => match c.callee with
        | .value f => match opd st.slots f with
          | some (.fnx (.yield l) .nil) => match allSome (c.args.toList.map (opd st.slots)) with
            | some args => some (l, args, o.dst)
            | none => none
          | _ => none
        | _ => none
      | _ => none
    | _ => none
  | none => none
def calm (ops : Array Oper) (i : Nat) : Bool := match ops[i]? with
  | some o => match o.op with
    | .defer _ => false
    | _ => true
  | none => true
def opsR (P : Program) (cfg : Cfg) (fuel : Nat) (y : Yld) (k : Nat) (ops : Array Oper) : List Nat → ASt → Option (ASt × List Nat)
  | [], st => some (st, [])
  | i :: r, st => match yldOp ops i st with
    | some (l, args, dst) => if nilP st.pc = true then match y args st.mem with
        | some (v, mem') => match opsR P cfg fuel y k ops r { slots := updS st.slots dst v, mem := mem', pc := [] } with
          | some (st', ls) => some (st', l :: ls)
          | none => none
        | none => none
      else none
    | none => if calm ops i = true then match stepA P cfg fuel ops k i st with
        | some st' => opsR P cfg fuel y k ops r st'
        | none => none
      else none
inductive TaskR where
  | code (c : Code)
  | rounds (c : Code)
def inBlockR (id : Nat) : Option (AExit × ASt × List Nat) → Option (AExit × ASt × List Nat)
  | some (.exit id', st, ls) => if id' = id then some (.normal, st, ls) else some (.exit id', st, ls)
  | r => r
def codeR (P : Program) (cfg : Cfg) (fuel : Nat) (y : Yld) (k : Nat) : Nat → TaskR → ASt → Option (AExit × ASt × List Nat)
  | 0, _, _ => none
  | n + 1, .rounds c, st => match codeR P cfg fuel y k n (.code c) st with
    | some (.normal, st', ls) => match codeR P cfg fuel y k n (.rounds c) st' with
      | some (x, st2, ls2) => some (x, st2, ls ++ ls2)
      | none => none
    | r => r
  | n + 1, .code c, st => match c with
    | .skip => some (.normal, st, [])
    | .ret => some (.ret, st, [])
    | .exit id => some (.exit id, st, [])
    | .seq a b => match codeR P cfg fuel y k n (.code a) st with
      | some (.normal, st', ls) => match codeR P cfg fuel y k n (.code b) st' with
        | some (x, st2, ls2) => some (x, st2, ls ++ ls2)
        | none => none
      | r => r
    | .block id c => inBlockR id (codeR P cfg fuel y k n (.code c) st)
    | .cond c a b => match boolOf (opd st.slots c) with
      | some (.lit z) => codeR P cfg fuel y k n (.code (if (z != 0) = true then a else b)) st
      | _ => none
    | .loop c => codeR P cfg fuel y k n (.rounds c) st
    | .region _ ops false => match opsR P cfg fuel y k ops (List.range ops.size) st with
      | some (st', ls) => some (.normal, st', ls)
      | none => none
    | _ => none

theorem step_sound (hcfg : CfgOk P cfg F N) (hN : N S w0) {fuel : Nat} {ops : Array Oper} {i : Nat} {st st' : ASt} (h : stepA P cfg fuel ops bs.length i st = some st') {e0 : List Ent} {a : Act} (hR : RelS δ (bs ++ e0) ρ S w0 st a w) (hρ : ρ.f = F) {K : Act → World → Prop}
    (hK : ∀ (e1 : List Ent) (a' : Act) (w' : World), RelS δ (bs ++ e1) ρ S w0 st' a' w' → K a' w') : wpOp P ops (fun e a w => e = .normal ∧ K a w) i (fun a' w' => Exit.normal = Exit.normal ∧ K a' w') a w := by
  unfold stepA at h
  rw [runF_eq] at h
  obtain ⟨v, m, hone⟩ : ∃ v m, (run P cfg fuel none (.oper ops i) st (endK bs.length)).one = some (v, m) := by
    cases ho : (run P cfg fuel none (.oper ops i) st (endK bs.length)).one with
    | none => rw [ho] at h; cases h
    | some p => exact ⟨p.1, p.2, rfl⟩
  rw [hone] at h
  have hhold := one_holds (ρ := ρ) (I := fun _ _ => True) hone
  refine run_sound hcfg hN fuel δ none (.oper ops i) st _ (bs ++ e0) ρ a w (fun e a w => e = .normal ∧ K a w) (fun _ => True) (fun _ => True) hR hρ hhold ?_ (fun c a w h => by cases h.1) (fun _ _ _ _ _ _ _ h => by cases h)
  intro ρ' ex bs' st1 a2 w2 hx hf hR2 hT2
  obtain ⟨rfl, e1, hbs'⟩ := hx
  cases ex with
  | normal =>
    have hbs2 : bs' = bs ++ (e0 ++ e1) := by rw [hbs', List.append_assoc]
    subst hbs2
    simp only [endK] at hT2
    obtain ⟨e2, hR3⟩ := endA_sound hR2 h hT2
    exact ⟨rfl, hK e2 _ _ hR3⟩
  | exit id => exact hT2.elim
  | ret => exact hT2.elim

theorem calm_spec {ops : Array Oper} {i : Nat} (h : calm ops i = true) : ∀ o, ops[i]? = some o → ∀ c, o.op ≠ .defer c := by
  intro o ho c hc
  unfold calm at h
  rw [ho] at h
  simp only [hc] at h
  cases h

theorem run_callYield {f : Operand} {args : Array Operand} {tys : Array TypeId} {e : Operand → Value} {o : Oper} {l : Nat} {fn : FuncId} {tmps : Array Value} {assign body : Code} (ho : o.op = .call ⟨.value f, args, tys⟩) (hf : e f = .func (.yield l) #[] #[])
    (h : (Instr.yield l (args.map e)).run P w = .ok (.round l fn tmps assign body) w) : (execOp e o).run P w = .ok (.round l fn tmps assign body) w := by
  obtain ⟨dst, op, type, pos, after, guard⟩ := o
  simp only at ho
  subst ho
  simp [execOp, resolve, hf, invoke, callFunc, h, go_sem]

theorem opsR_sound (hcfg : CfgOk P cfg F N) (hN : N S w0) {fuel n : Nat} {ro : Option Nat} {y : Yld} {ops : Array Oper} (hρ : ρ.f = F) : ∀ (r : List Nat) {st st' : ASt} {ls : List Nat}, opsR P cfg fuel y bs.length ops r st = some (st', ls) → (∀ l ∈ ls, YOk P bs ρ S w0 y l) →
    ∀ {e0 : List Ent} {a : Act} {w : World}, RelS δ (bs ++ e0) ρ S w0 st a w → (∀ (e1 : List Ent) (a' : Act) (w' : World), RelS δ (bs ++ e1) ρ S w0 st' a' w' → Q .normal a' w') → wpOpsIn (FR ro) n P ops Q r a w
  | [], st, st', ls, h, _, e0, a, w, hR, hK => by
    cases h
    exact hK _ _ _ hR
  | i :: r, st, st', ls, h, hy, e0, a, w, hR, hK => by
    simp only [opsR] at h
    split at h
    · rename_i l args dst hyo
      split at h
      · rename_i hpc
        split at h
        · rename_i v mem' hyv
          split at h
          · rename_i st2 ls2 hrest
            cases h
            unfold yldOp at hyo
            split at hyo
            · rename_i o ho
              split at hyo
              · rename_i hg
                split at hyo
                · rename_i c hc
                  split at hyo
                  · rename_i f hcal
                    split at hyo
                    · rename_i l' hf
                      split at hyo
                      · rename_i args' hargs
                        cases hyo
                        have hfv := opd_sound hR.slot f _ hf
                        simp only [dv, dvs, Option.map_some, Option.some.injEq] at hfv
                        have hvs : dvl (bs ++ e0) ρ args = some (c.args.map a.eval).toList := by
                          have hl := allSome_map hargs
                          refine dvl_of_get ?_ fun j b hb => ?_
                          · have := congrArg List.length hl
                            simp only [List.length_map, Array.length_toList] at this
                            rw [Array.length_toList, Array.size_map, this]
                          · have h1 : (c.args.toList.map (opd st.slots))[j]? = some (some b) := by rw [hl, List.getElem?_map, hb]; rfl
                            rw [List.getElem?_map, Option.map_eq_some_iff] at h1
                            obtain ⟨x, hx, hxb⟩ := h1
                            have h2 := opd_sound hR.slot x b hxb
                            rw [h2]
                            have h3 : (c.args.map a.eval).toList[j]? = some (a.eval x) := by
                              rw [Array.toList_map, List.getElem?_map, hx]; rfl
                            exact h3.symm
                        obtain ⟨fn, tmps, assign, body, hrun, hround⟩ := hy l (List.mem_cons_self ..) (n - 1) args st.mem v mem' hyv e0 w _ hvs hR.mem
                        rw [Array.toArray_toList] at hrun
                        obtain ⟨cal, cargs, ctys⟩ := c
                        simp only at hcal hc hrun
                        subst hcal
                        have hex := run_callYield (P := P) hc hfv.symm hrun
                        simp only [wpOpsIn, ho]
                        rw [if_pos (guard_yes hR hg)]
                        refine ⟨fun _ _ => trivial, ?_⟩
                        rw [Oper.semAt_eq _ _ _ (by rw [hc]; intro c' h'; cases h'), hex]
                        refine ⟨fun h => (by cases h), ?_⟩
                        refine RoundIn.mono (R := fun e w' => ∃ ex z, e = .returned z ∧ dv (bs ++ (e0 ++ ex)) ρ v = some z ∧ RelM (bs ++ (e0 ++ ex)) ρ S w0 mem' w') hround ?_
                        rintro e w' ⟨ex, z, rfl, hz, hM⟩
                        have hR2 : RelS δ (bs ++ (e0 ++ ex)) ρ S w0 { slots := st.slots, mem := mem', pc := [] } a w' := by
                          refine ⟨hR.size, fun j b hb => ?_, hR.defers, hM, fun p hp => by cases hp⟩
                          rw [← List.append_assoc]
                          exact dv_mono ex b (hR.slot j b hb)
                        have hR3 := hR2.put o.dst hz
                        exact opsR_sound hcfg hN hρ r hrest (fun l hl => hy l (List.mem_cons_of_mem _ hl)) hR3 hK
                      · cases hyo
                    · cases hyo
                  · cases hyo
                · cases hyo
              · cases hyo
            · cases hyo
          · cases h
        · cases h
      · cases h
    · split at h
      · rename_i hcalm
        split at h
        · rename_i st1 hst
          refine opIn (K := fun a' w' => ∃ e1, RelS δ (bs ++ e1) ρ S w0 st1 a' w') (calm_spec hcalm) (step_sound hcfg hN hst hR hρ fun e1 a' w' hR1 => ⟨e1, hR1⟩) (fun a' w' ⟨e1, hR1⟩ => hR1.defers.trans hR.defers.symm) ?_
          rintro a' w' ⟨e1, hR1⟩
          exact opsR_sound hcfg hN hρ r h hy hR1 hK
        · cases h
      · cases h

def TaskR.wp (ro : Option Nat) (n : Nat) (P : Program) (Q : Exit → Act → World → Prop) (m : Nat) : TaskR → Act → World → Prop
  | .code c, a, w => c.wpIn (FR ro) n P Q a w
  | .rounds c, a, w => Code.roundsIn (FR ro) n P c Q m a w
theorem codeR_sound (hcfg : CfgOk P cfg F N) (hN : N S w0) {fuel n : Nat} {ro : Option Nat} {y : Yld} (hρ : ρ.f = F) : ∀ (m : Nat) (t : TaskR) {Q : Exit → Act → World → Prop} {st st' : ASt} {x : AExit} {ls : List Nat}, codeR P cfg fuel y bs.length m t st = some (x, st', ls) → (∀ l ∈ ls, YOk P bs ρ S w0 y l) →
    ∀ {e0 : List Ent} {a : Act} {w : World}, RelS δ (bs ++ e0) ρ S w0 st a w → (∀ (e1 : List Ent) (a' : Act) (w' : World), RelS δ (bs ++ e1) ρ S w0 st' a' w' → Q x.conc a' w') → t.wp ro n P Q m a w := by
  intro m
  induction m with
  | zero => intro t Q st st' x ls h; cases t <;> cases h
  | succ m ih =>
    intro t Q st st' x ls h hy e0 a w hR hK
    cases t with
    | rounds c =>
      simp only [codeR] at h
      show c.wpIn (FR ro) n P (Exit.then (Code.roundsIn (FR ro) n P c Q m) Q) a w
      split at h
      · rename_i st1 ls1 h1
        split at h
        · rename_i x2 st2 ls2 h2
          cases h
          refine ih (.code c) (Q := Exit.then (Code.roundsIn (FR ro) n P c Q m) Q) h1 (fun l hl => hy l (List.mem_append_left _ hl)) hR ?_
          intro e1 a' w' hR1
          exact ih (.rounds c) h2 (fun l hl => hy l (List.mem_append_right _ hl)) hR1 hK
        · cases h
      · rename_i hne
        cases x with
        | normal => exact absurd h (hne _ _)
        | exit id => exact ih (.code c) (Q := Exit.then (Code.roundsIn (FR ro) n P c Q m) Q) h hy hR hK
        | ret => exact ih (.code c) (Q := Exit.then (Code.roundsIn (FR ro) n P c Q m) Q) h hy hR hK
    | code c =>
      show c.wpIn (FR ro) n P Q a w
      cases c with
      | skip => cases h; exact wpIn_skip (hK _ _ _ hR)
      | ret => cases h; exact wpIn_ret (hK _ _ _ hR)
      | exit id => cases h; exact wpIn_exit (hK _ _ _ hR)
      | seq c1 c2 =>
        simp only [codeR] at h
        refine wpIn_seq ?_
        split at h
        · rename_i st1 ls1 h1
          split at h
          · rename_i x2 st2 ls2 h2
            cases h
            refine ih (.code c1) (Q := Exit.then (c2.wpIn (FR ro) n P Q) Q) h1 (fun l hl => hy l (List.mem_append_left _ hl)) hR ?_
            intro e1 a' w' hR1
            exact ih (.code c2) h2 (fun l hl => hy l (List.mem_append_right _ hl)) hR1 hK
          · cases h
        · rename_i hne
          cases x with
          | normal => exact absurd h (hne _ _)
          | exit id => exact ih (.code c1) (Q := Exit.then (c2.wpIn (FR ro) n P Q) Q) h hy hR hK
          | ret => exact ih (.code c1) (Q := Exit.then (c2.wpIn (FR ro) n P Q) Q) h hy hR hK
      | block id c =>
        simp only [codeR] at h
        refine wpIn_block ?_
        cases hc : codeR P cfg fuel y bs.length m (.code c) st with
        | none => rw [hc] at h; cases h
        | some p =>
          obtain ⟨x1, st1, ls1⟩ := p
          rw [hc] at h
          cases x1 with
          | normal => cases h; exact ih (.code c) (Q := Exit.inBlock id Q) hc hy hR hK
          | ret => cases h; exact ih (.code c) (Q := Exit.inBlock id Q) hc hy hR hK
          | exit id' =>
            simp only [inBlockR] at h
            split at h
            · rename_i he
              cases h
              refine ih (.code c) (Q := Exit.inBlock id Q) hc hy hR fun e1 a' w' hR1 => ?_
              show Exit.inBlock id Q (.exit id') a' w'
              simp only [Exit.inBlock, he, if_true]
              exact hK _ _ _ hR1
            · rename_i he
              cases h
              refine ih (.code c) (Q := Exit.inBlock id Q) hc hy hR fun e1 a' w' hR1 => ?_
              show Exit.inBlock id Q (.exit id') a' w'
              simp only [Exit.inBlock, he, if_false]
              exact hK _ _ _ hR1
      | cond c c1 c2 =>
        simp only [codeR] at h
        split at h
        · rename_i z hb
          have hc : a.eval c = .bool (z != 0) := by
            unfold boolOf at hb
            split at hb
            · rename_i e he
              cases hb
              have := opd_sound hR.slot c _ he
              simp only [dv, Option.some.injEq] at this
              exact this.symm
            · cases hb
          refine wpIn_cond hc ?_
          exact ih (.code (if (z != 0) = true then c1 else c2)) h hy hR hK
        · cases h
      | loop c =>
        simp only [codeR] at h
        exact wpIn_loop_rounds m (ih (.rounds c) h hy hR hK)
      | region id ops draw =>
        cases draw with
        | true => cases h
        | false =>
          simp only [codeR] at h
          split at h
          · rename_i st1 ls1 h1
            cases h
            exact wpIn_region (opsR_sound hcfg hN hρ _ h1 hy hR hK)
          · cases h
      | _ => cases h
end Go.SX

/- Symbolic execution of the model's code: a range over a function. -/
namespace Go.SX
set_option linter.unusedSimpArgs false
set_option linter.unusedVariables false
variable {δ : List Deferred} {P : Program} {ρ : Env} {cfg : Cfg} {F : Nat → List Int → Int} {N : (Nat → Prop) → World → Prop} {S : Nat → Prop} {w0 w : World} {bs : List Ent} {Q : Exit → Act → World → Prop}

/-! ### a body, cut -/
def spineC : Code → List Code
  | .seq a b => spineC a ++ spineC b
  | c => [c]
def foldSeq : List Code → Code
  | [] => .skip
  | c :: r => .seq c (foldSeq r)
def wpL (Fc : Fence) (n : Nat) (P : Program) (Q : Exit → Act → World → Prop) : List Code → Act → World → Prop
  | [], a, w => Q .normal a w
  | c :: r, a, w => c.wpIn Fc n P (Exit.then (wpL Fc n P Q r) Q) a w
theorem wpL_append {Fc : Fence} {n : Nat} : ∀ {l m : List Code} {a : Act} {w : World}, wpL Fc n P Q (l ++ m) a w → wpL Fc n P (Exit.then (wpL Fc n P Q m) Q) l a w
  | [], m, a, w, h => h
  | c :: l, m, a, w, h => wpIn_mono (c := c) h fun e a' w' h' => by
    cases e with
    | normal => exact wpL_append (l := l) h'
    | _ => exact h'
theorem wpL_spine {Fc : Fence} {n : Nat} : ∀ (c : Code) {Q : Exit → Act → World → Prop} {a : Act} {w : World}, wpL Fc n P Q (spineC c) a w → c.wpIn Fc n P Q a w
  | .seq x y, Q, a, w, h => by
    refine wpIn_seq (wpL_spine x (wpL_mono' (wpL_append h) ?_))
    intro e a' w' h'
    cases e with
    | normal => exact wpL_spine y h'
    | _ => exact h'
  | .skip, Q, a, w, h => wpIn_mono h fun e a' w' h' => by cases e <;> exact h'
  | .region _ _ _, Q, a, w, h => wpIn_mono h fun e a' w' h' => by cases e <;> exact h'
  | .cond _ _ _, Q, a, w, h => wpIn_mono h fun e a' w' h' => by cases e <;> exact h'
  | .block _ _, Q, a, w, h => wpIn_mono h fun e a' w' h' => by cases e <;> exact h'
  | .loop _, Q, a, w, h => wpIn_mono h fun e a' w' h' => by cases e <;> exact h'
  | .rangeFunc _ _ _ _, Q, a, w, h => wpIn_mono h fun e a' w' h' => by cases e <;> exact h'
  | .exit _, Q, a, w, h => wpIn_mono h fun e a' w' h' => by cases e <;> exact h'
  | .scope _, Q, a, w, h => wpIn_mono h fun e a' w' h' => by cases e <;> exact h'
  | .label _, Q, a, w, h => wpIn_mono h fun e a' w' h' => by cases e <;> exact h'
  | .goto _, Q, a, w, h => wpIn_mono h fun e a' w' h' => by cases e <;> exact h'
  | .ret, Q, a, w, h => wpIn_mono h fun e a' w' h' => by cases e <;> exact h'
  | .refuse _, Q, a, w, h => wpIn_mono h fun e a' w' h' => by cases e <;> exact h'
where
  wpL_mono' {Fc : Fence} {n : Nat} {Q Q' : Exit → Act → World → Prop} : ∀ {l : List Code} {a : Act} {w : World}, wpL Fc n P Q l a w → (∀ e a w, Q e a w → Q' e a w) → wpL Fc n P Q' l a w
    | [], a, w, h, hq => hq _ _ _ h
    | c :: l, a, w, h, hq => wpIn_mono (c := c) h fun e a' w' h' => by
      cases e with
      | normal => exact wpL_mono' (l := l) h' hq
      | _ => exact hq _ _ _ h'
/-- Codes, one behind the other. -/
def runL (P : Program) (cfg : Cfg) (fuel : Nat) : List Code → ASt → (AExit → ASt → Tree) → Tree
  | [], st, K => K .normal st
  | c :: r, st, K => runF P cfg fuel none (.code c) st fun ex st' => match ex with
    | .normal => runL P cfg fuel r st' K
    | ex => K ex st'
theorem runL_sound (hcfg : CfgOk P cfg F N) (hN : N S w0) {fuel n : Nat} {I : Nat → Env → Prop} {Lf : Env → AV → List AObj → Prop} {K : AExit → ASt → Tree} (hP : ∀ c a w, ¬ Q (.panic c) a w) (hρ : ρ.f = F) : ∀ (l : List Code) {st : ASt} {e0 : List Ent} {a : Act} {w : World},
    (runL P cfg fuel l st K).holds I Lf ρ → RelS δ (bs ++ e0) ρ S w0 st a w →
    (∀ (ex : AExit) (e1 : List Ent) (st' : ASt) (a' : Act) (w' : World), RelS δ (bs ++ e1) ρ S w0 st' a' w' → (K ex st').holds I Lf ρ → Q ex.conc a' w') → wpL Fence.wide n P Q l a w
  | [], st, e0, a, w, hT, hR, hK => hK .normal e0 st a w hR hT
  | c :: r, st, e0, a, w, hT, hR, hK => by
    refine (wpIn_wide (n := n)).2 ?_
    simp only [runL] at hT
    rw [runF_eq] at hT
    refine run_sound hcfg hN fuel δ none (.code c) st _ (bs ++ e0) ρ a w (Exit.then (wpL Fence.wide n P Q r) Q) (fun _ => True) (fun _ => True) hR hρ hT ?_ (fun c a w h => hP c a w h) (fun _ _ _ _ _ _ _ h => by cases h)
    intro ρ' ex bs' st1 a2 w2 hx hf hR2 hT2
    obtain ⟨hρe, e1, hbs'⟩ := hx
    have hbs2 : bs' = bs ++ (e0 ++ e1) := by rw [hbs', List.append_assoc]
    subst hbs2
    rw [hρe] at hR2 hT2
    cases ex with
    | normal => exact runL_sound hcfg hN hP hρ r hT2 hR2 hK
    | exit id => exact hK (.exit id) _ _ _ _ hR2 hT2
    | ret => exact hK .ret _ _ _ _ hR2 hT2
def pieceL (P : Program) (cfg : Cfg) (fuel : Nat) (l : List Code) (k : Nat) (st : ASt) : Option ASt := decoS (runL P cfg fuel l st (endK k)).one
theorem pieceL_sound (hcfg : CfgOk P cfg F N) (hN : N S w0) {fuel n : Nat} {l : List Code} {st st' : ASt} (h : pieceL P cfg fuel l bs.length st = some st') {e0 : List Ent} {a : Act} (hR : RelS δ (bs ++ e0) ρ S w0 st a w) (hρ : ρ.f = F)
    (hP : ∀ c a w, ¬ Q (.panic c) a w) (hK : ∀ (e1 : List Ent) (a' : Act) (w' : World), RelS δ (bs ++ e1) ρ S w0 st' a' w' → Q .normal a' w') : wpL Fence.wide n P Q l a w := by
  unfold pieceL at h
  obtain ⟨v, m, hone⟩ : ∃ v m, (runL P cfg fuel l st (endK bs.length)).one = some (v, m) := by
    cases ho : (runL P cfg fuel l st (endK bs.length)).one with
    | none => rw [ho] at h; cases h
    | some p => exact ⟨p.1, p.2, rfl⟩
  rw [hone] at h
  have hhold := one_holds (ρ := ρ) (I := fun _ _ => True) hone
  refine runL_sound hcfg hN hP hρ l hhold hR ?_
  intro ex e1 st1 a1 w1 hR1 hT1
  cases ex with
  | normal =>
    simp only [endK] at hT1
    obtain ⟨e2, hR3⟩ := endA_sound hR1 h hT1
    exact hK e2 _ _ hR3
  | exit id => exact hT1.elim
  | ret => exact hT1.elim

/-! ### blocks that are no memory's -/
def ownAll (mem : List AObj) : Bool := mem.all fun o => o.mine || (match o with
  | .dead => true
  | _ => false)
theorem ownAll_spec {mem : List AObj} (h : ownAll mem = true) {i : Nat} {o : AObj} (ho : mem[i]? = some o) : o.mine = true ∨ o = .dead := by
  have := List.all_eq_true.1 h o (List.mem_of_getElem? ho)
  simp only [Bool.or_eq_true] at this
  rcases this with h | h
  · exact .inl h
  · cases o <;> first | exact .inr rfl | cases h
theorem RelM.turn {mem : List AObj} (hm : RelM bs ρ S w0 mem w) (ho : ownAll mem = true) {S1 : Nat → Prop} {w1 w' : World} (hS : ∀ (i : Nat) (o : AObj) (b : Ent), mem[i]? = some o → o.mine = true → bs[i]? = some b → ¬ S1 b.blk ∧ w'.heap[b.blk]? = w.heap[b.blk]?) (hk : Keep S1 w1 w') : RelM bs ρ S1 w1 mem w' := by
  refine ⟨hm.len, fun i o hi => ?_, fun i o b hi hmi hb => (hS i o b hi hmi hb).1, hm.apart, hk⟩
  obtain ⟨b, hb, hr⟩ := hm.rel i o hi
  rcases ownAll_spec ho hi with h | rfl
  · exact ⟨b, hb, hr.same fun _ => (hS i o b hi h hb).2⟩
  · exact ⟨b, hb, hr.same fun h => h.elim⟩
theorem keep_refl {S : Nat → Prop} {w : World} (h : ∀ x, S x → x < w.heap.size) : Keep S w w := ⟨rfl, rfl, rfl, Nat.le_refl _, fun _ _ => rfl, h⟩
theorem RelS.at {st : ASt} {a : Act} (hR : RelS δ bs ρ S w0 st a w) {S1 : Nat → Prop} {w1 w' : World} (hm : RelM bs ρ S1 w1 st.mem w') : RelS δ bs ρ S1 w1 st a w' := ⟨hR.size, hR.slot, hR.defers, hm, hR.pc⟩

/-! ### a round -/
def noY : Yld := fun _ _ => none
def roundT (P : Program) (cfg : Cfg) (fuel m : Nat) (assign body : Code) (sl : List (Option AV)) (p : Nat) : Yld := fun args mem => match args with
  | [x] => if ownAll mem = true then match codeR P cfg fuel noY mem.length m (.code assign) ⟨sl.set p (some x), mem, []⟩ with
    | some (.normal, stA, _) => if ownAll stA.mem = true then match codeR P cfg fuel noY mem.length m (.code body) stA with
      | some (.normal, stB, _) => if ownAll stB.mem = true then some (.bool (.lit 1), stB.mem) else none
      | _ => none
      else none
    | _ => none
    else none
  | _ => none
theorem yok_noY {l : Nat} : YOk P bs ρ S w0 noY l := fun m args mem v mem' h => by cases h

theorem round_ok (hcfg : CfgOk P cfg F N) (hst : Stays N) {S S1 : Nat → Prop} {w0 W1 : World} (hN : N S w0) (hSS : ∀ x, S x → S1 x) (hW : ∀ x, S x → W1.heap[x]? = w0.heap[x]?) {L : Nat} (hL : S1 L) (hLn : ¬ S L) {r : Loop} (hrec : W1.heap[L]? = some (.loop r))
    (hrs : r.state = .ready) (hrp : r.pending = none) {p : Nat} (hps : r.params = #[p]) {sl : List (Option AV)} (hsz : r.tmps.size = sl.length) (hsl : ∀ (i : Nat) v, sl[i]? = some (some v) → dv bs ρ v = some (r.tmps.getD i undef)) (hρ : ρ.f = F) {fuel m : Nat} :
    YOk P bs ρ S1 W1 (roundT P cfg fuel m r.assign r.body sl p) L := by
  intro mm args mem v mem' hy e0 w vs hvs hM
  unfold roundT at hy
  split at hy
  · rename_i x
    split at hy
    · rename_i ho
      split at hy
      · rename_i stA lsA hA
        split at hy
        · rename_i hoA
          split at hy
          · rename_i stB lsB hB
            split at hy
            · rename_i hoB
              cases hy
              obtain ⟨z, hz, rfl⟩ : ∃ z, dv (bs ++ e0) ρ x = some z ∧ vs = [z] := by
                simp only [dvl, Option.bind_eq_some_iff, Option.map_eq_some_iff] at hvs
                obtain ⟨z, hz, l, hl, rfl⟩ := hvs
                cases hl
                exact ⟨z, hz, rfl⟩
              have hl : w.heap[L]? = some (.loop r) := (hM.keep.block L hL).trans hrec
              have hN1 : N S1 W1 := hst S S1 w0 W1 hN hSS hW
              have hrun := run_yield (P := P) (args := #[z]) hl (by rw [hps]; rfl)
              rw [hps] at hrun
              have hset : ((#[p].zip #[z]).foldl (fun tmps (x : Nat × Value) => tmps.setIfInBounds x.1 x.2) r.tmps) = r.tmps.setIfInBounds p z := by simp
              have hR0 : RelS [] (bs ++ e0) ρ S1 W1 ⟨sl, mem, []⟩ { tmps := r.tmps, defers := [] } w := ⟨hsz, fun i v hv => dv_mono e0 v (hsl i v hv), rfl, hM, fun p hp => by cases hp⟩
              have hR1 := hR0.put (some p) hz
              refine ⟨_, _, _, _, hrun, roundIn_of_wpIn (F := Fence.wide) trivial ?_⟩
              show r.assign.wpIn (FR (some L)) mm P _ _ w
              have hlen : mem.length = (bs ++ e0).length := hM.len.symm
              rw [hlen] at hA hB
              refine codeR_sound (bs := bs ++ e0) (n := mm) (ro := some L) (δ := []) hcfg hN1 hρ m (.code r.assign) hA (fun l _ => by
                intro m args mem v mem' h; cases h) (e0 := []) (a := { tmps := (#[p].zip #[z]).foldl (fun tmps (x : Nat × Value) => tmps.setIfInBounds x.1 x.2) r.tmps, defers := [] }) (w := w) (by rw [List.append_nil, hset]; exact hR1) ?_
              intro e1 a1 w1 hRA
              have hlA : w1.heap[L]? = some (.loop r) := (hRA.mem.keep.block L hL).trans hrec
              have hltA : L < w1.heap.size := (Array.getElem?_eq_some_iff.1 hlA).1
              refine ⟨_, run_beginRound hlA hrs, ?_⟩
              obtain ⟨w2, hw2⟩ : ∃ w2, w1.putObj L (.loop { r with state := .busy }) = w2 := ⟨_, rfl⟩
              rw [hw2]
              have hoth : ∀ x, x ≠ L → w2.heap[x]? = w1.heap[x]? := fun x hx => by rw [← hw2]; exact World.putObj_heap_other hx
              have hsame : w2.heap[L]? = some (.loop { r with state := .busy }) := by rw [← hw2]; exact World.putObj_heap_same hltA
              have hsz2 : w2.heap.size = w1.heap.size := by rw [← hw2]; simp
              have holdS : ∀ x, S1 x → x < w2.heap.size := fun x hx => by have := hRA.mem.keep.old x hx; have := hRA.mem.keep.size; omega
              have hM2 : RelM (bs ++ e0 ++ e1) ρ S1 w2 stA.mem w2 := hRA.mem.turn hoA (fun i o b hi hmi hb => by
                have h1 := hRA.mem.own i o b hi hmi hb
                exact ⟨h1, hoth _ fun he => h1 (he ▸ hL)⟩) (keep_refl holdS)
              have hN2 : N S1 w2 := hst S S1 w0 w2 hN hSS fun x hx => (hoth x fun he => hLn (he ▸ hx)).trans ((hRA.mem.keep.block x (hSS x hx)).trans (hW x hx))
              show r.body.wpIn (FR (some L)) mm P _ a1 w2
              refine codeR_sound (bs := bs ++ e0) (n := mm) (ro := some L) (δ := []) hcfg hN2 hρ m (.code r.body) hB (fun l _ => by
                intro m args mem v mem' h; cases h) (e0 := e1) (hRA.at hM2) ?_
              intro e2 a3 w3 hRB
              have hlB : w3.heap[L]? = some (.loop { r with state := .busy }) := (hRB.mem.keep.block L hL).trans hsame
              have hltB : L < w3.heap.size := (Array.getElem?_eq_some_iff.1 hlB).1
              refine ⟨_, _, run_endRound none hlB, e2, .bool true, rfl, rfl, ?_⟩
              have hrec' : ({ { r with state := .busy } with state := if Option.isNone (none : Option Code) then .ready else .done, pending := none } : Loop) = r := by
                cases r; simp only at hrs hrp; subst hrs; subst hrp; rfl
              rw [hrec', ← List.append_assoc]
              have hoth4 : ∀ x, x ≠ L → (w3.putObj L (.loop r)).heap[x]? = w3.heap[x]? := fun x hx => World.putObj_heap_other hx
              refine hRB.mem.turn hoB (fun i o b hi hmi hb => by
                have h1 := hRB.mem.own i o b hi hmi hb
                exact ⟨h1, hoth4 _ fun he => h1 (he ▸ hL)⟩) ?_
              have hk3 := hRB.mem.keep
              have hk1 := hRA.mem.keep
              have e_os : w2.os = w1.os := by rw [← hw2]; rfl
              have e_tape : w2.tape = w1.tape := by rw [← hw2]; rfl
              have e_out : w2.output = w1.output := by rw [← hw2]; rfl
              refine ⟨(hk3.os.trans e_os).trans hk1.os, (hk3.tape.trans e_tape).trans hk1.tape, (hk3.output.trans e_out).trans hk1.output, by have := hk3.size; have := hk1.size; simp; omega, fun x hx => ?_, hk1.old⟩
              by_cases he : x = L
              · subst he
                rw [World.putObj_heap_same hltB, hrec]
              · rw [hoth4 x he, hk3.block x hx, hoth x he, hk1.block x hx]
            · cases hy
          · cases hy
        · cases hy
      · cases hy
    · cases hy
  · cases hy

/-! ### the statement -/
/-- The function that is ranged over: what it comes to. -/
def iterT (P : Program) (cfg : Cfg) (fuel m : Nat) (fn : Func) (c : Code) (args : List AV) (mem : List AObj) (y : Yld) : Option (List AObj × List Nat) := match codeR P cfg fuel y mem.length m (.code c) (begA fn args mem) with
  | some (.exit _, _, _) => none
  | some (_, st, ls) => match resultA P fn st with
    | some _ => if ownAll st.mem = true then some (st.mem, ls) else none
    | none => none
  | none => none
def markD (D : Nat) : List Deferred := [{ target := .collected D, args := #[] }]

theorem rangeFunc_ok (hcfg : CfgOk P cfg F N) (hst : Stays N) (hN : N S w0) (hρ : ρ.f = F) {g : Operand} {p : Nat} {assign body : Code} {st : ASt} {gf : FuncId} {caps : AV} (hg : opd st.slots g = some (.fn gf caps)) {fnG : Func} {cG : Code} (hfn : P.funcs[gf]? = some fnG) (hcG : fnG.body = some cG)
    (hname : (fnG.name == "runtime.NumGoroutine") = false) (hown : ownAll st.mem = true) {fuel m n : Nat} {memE : List AObj}
    (hit : ∀ L, ∃ ls, iterT P cfg fuel m fnG cG (.fnx (.yield L) .nil :: caps.members) st.mem (roundT P cfg fuel m assign body st.slots p) = some (memE, ls) ∧ ∀ l ∈ ls, l = L) {a : Act} (hR : RelS [] bs ρ S w0 st a w)
    (hK : ∀ (S1 : Nat → Prop) (w4 : World) (D : Nat) (e1 : List Ent), (∀ x, S x → S1 x) → S1 D → ¬ S D → w4.heap[D]? = some (.deferred (some [])) → Keep S w0 w4 → (∀ x, S x → w4.heap[x]? = w0.heap[x]?) →
      RelS (markD D) (bs ++ e1) ρ S1 w4 { st with mem := memE } { a with defers := markD D } w4 → Q .normal { a with defers := markD D } w4) :
    (Code.rangeFunc g #[p] assign body).wpIn Fence.wide n P Q a w := by
  refine wpIn_rangeFunc ?_
  intro fn _
  have hgv := opd_sound hR.slot g _ hg
  simp only [dv] at hgv
  obtain ⟨lb, hlb, hlbe⟩ : ∃ lb, dvs bs ρ caps = some lb ∧ Value.func (.func gf) #[] lb.toArray = a.eval g := by
    simp only [Option.map_eq_some_iff] at hgv
    exact hgv
  have eg : ∀ args w, (callFunc gf args).run P w = .ok (.enter gf args) w := fun args w => run_callFunc hfn hname (by rw [hcG]; rfl) args w
  obtain ⟨r, hr⟩ : ∃ r : Loop, r = { state := .ready, pending := none, fn, tmps := a.tmps, params := #[p], assign, body, defers := w.heap.size } := ⟨_, rfl⟩
  obtain ⟨W1, hW1⟩ : ∃ W1, (w.alloc (.deferred (some []))).alloc (.loop r) = W1 := ⟨_, rfl⟩
  have hL1 : W1.heap[w.heap.size + 1]? = some (.loop r) := by
    rw [← hW1]; have := World.alloc_heap_new (w.alloc (.deferred (some []))) (.loop r); rwa [World.size_alloc] at this
  have hsz1 : W1.heap.size = w.heap.size + 2 := by rw [← hW1, World.size_alloc, World.size_alloc]
  have hold : ∀ x, x < w.heap.size → W1.heap[x]? = w.heap[x]? := fun x hx => by
    rw [← hW1]
    exact (heap_alloc_old _ _ (by rw [World.size_alloc]; omega)).trans (heap_alloc_old w _ hx)
  have hD1 : W1.heap[w.heap.size]? = some (.deferred (some [])) := by
    rw [← hW1]
    exact (heap_alloc_old _ _ (by rw [World.size_alloc]; omega)).trans (World.alloc_heap_new w _)
  have e_os : W1.os = w.os := by rw [← hW1]; rfl
  have e_tape : W1.tape = w.tape := by rw [← hW1]; rfl
  have e_out : W1.output = w.output := by rw [← hW1]; rfl
  let S1 : Nat → Prop := fun x => S x ∨ x = w.heap.size ∨ x = w.heap.size + 1
  have hk := hR.mem.keep
  have hSlt : ∀ x, S x → x < w.heap.size := fun x hx => by have := hk.old x hx; have := hk.size; omega
  have hS1lt : ∀ x, S1 x → x < W1.heap.size := fun x hx => by
    rcases hx with h | h | h
    · have := hSlt x h; omega
    · omega
    · omega
  have hM1 : RelM bs ρ S1 W1 st.mem W1 := hR.mem.turn hown (fun i o b hi hmi hb => by
    obtain ⟨b', hb', hrel⟩ := hR.mem.rel i o hi
    rw [hb] at hb'; cases hb'
    have hlt := hrel.lt (Occ.mine hmi)
    refine ⟨fun h => ?_, hold _ hlt⟩
    rcases h with h | h | h
    · exact hR.mem.own i o b hi hmi hb h
    · omega
    · omega) (keep_refl hS1lt)
  have hWS : ∀ x, S x → W1.heap[x]? = w0.heap[x]? := fun x hx => (hold x (hSlt x hx)).trans (hk.block x hx)
  have hN1 : N S1 W1 := hst S S1 w0 W1 hN (fun x hx => .inl hx) hWS
  refine ⟨w.heap.size + 1, [{ target := .collected w.heap.size, args := #[] }], W1, { target := .fn (.func gf) lb.toArray, args := #[.func (.yield (w.heap.size + 1)) #[] #[]] }, W1, gf,
    #[.func (.yield (w.heap.size + 1)) #[] #[]] ++ lb.toArray, W1, ?_, ?_, fun _ _ => trivial, ?_, fun h => (by cases h), ?_⟩
  · rw [← hW1, hr]; exact run_enterLoop_outer _ _ _ _ _
  · simp only [resolve, ← hlbe]
    simp [go_sem]
  · simp [invoke, go_sem, eg]
  · obtain ⟨ls, hit, hls⟩ := hit (w.heap.size + 1)
    unfold iterT at hit
    have hmem := dvl_members _ hlb
    have hvs : dvl bs ρ (.fnx (.yield (w.heap.size + 1)) .nil :: caps.members) = some (.func (.yield (w.heap.size + 1)) #[] #[] :: lb) := by
      simp only [dvl, dv, dvs, Option.map_some, Option.bind_some, hmem]
    have hlen := dvl_length hvs
    have hR1 : RelS [] bs ρ S1 W1 (begA fnG (.fnx (.yield (w.heap.size + 1)) .nil :: caps.members) st.mem) { tmps := (.func (.yield (w.heap.size + 1)) #[] #[] :: lb).toArray ++ Array.replicate (fnG.ntmps - (.func (.yield (w.heap.size + 1)) #[] #[] :: lb).length) undef, defers := [] } W1 := by
      refine ⟨by simp [begA, hlen]; omega, ?_, rfl, hM1, fun p hp => by cases hp⟩
      have := slots_map _ _ (fnG.ntmps - (Value.func (.yield (w.heap.size + 1)) #[] #[] :: lb).length) hvs
      simpa [begA, hlen] using this
    have hrnd : ∀ l ∈ ls, YOk P bs ρ S1 W1 (roundT P cfg fuel m assign body st.slots p) l := fun l hl => by
      rw [hls l hl]
      have h1 : assign = r.assign := by rw [hr]
      have h2 : body = r.body := by rw [hr]
      rw [h1, h2]
      exact round_ok hcfg hst hN (fun x hx => .inl hx) hWS (.inr (.inr rfl)) (fun h => by have := hSlt _ h; omega) hL1 (by rw [hr]) (by rw [hr]) (by rw [hr]) (by rw [hr]; exact hR.size) (fun i v hv => by rw [hr]; exact hR.slot i v hv) hρ
    have fin : ∀ (stE : ASt) (e1 : List Ent) (a' : Act) (w' : World), resultA P fnG stE ≠ none → ownAll stE.mem = true → stE.mem = memE → RelS [] (bs ++ e1) ρ S1 W1 stE a' w' →
        a'.defers = [] ∧ ∃ y, (results fnG a'.tmps).run P w' = .ok y w' ∧ rangePost Fence.wide n P (w.heap.size + 1) Q { a with defers := [{ target := .collected w.heap.size, args := #[] }] ++ a.defers } (.returned y) w' := by
      intro stE e1 a' w' hres ho hme hRE
      cases hv : resultA P fnG stE with
      | none => exact absurd hv hres
      | some v =>
        obtain ⟨z, hz, hrun⟩ := resultA_sound (P := P) hRE hv
        refine ⟨hRE.defers, z, hrun, ?_⟩
        have hkE := hRE.mem.keep
        have hlE : w'.heap[w.heap.size + 1]? = some (.loop r) := (hkE.block _ (.inr (.inr rfl))).trans hL1
        have hltE := (Array.getElem?_eq_some_iff.1 hlE).1
        have hend := run_endLoop (P := P) hlE (by rw [hr]; simp)
        obtain ⟨w4, hw4⟩ : ∃ w4, w'.putObj (w.heap.size + 1) (.loop { r with state := .exhausted }) = w4 := ⟨_, rfl⟩
        rw [hw4] at hend
        have hpen : r.pending = none := by rw [hr]
        rw [hpen] at hend
        refine ⟨none, w4, hend, ?_⟩
        have hoth : ∀ x, x ≠ w.heap.size + 1 → w4.heap[x]? = w'.heap[x]? := fun x hx => by rw [← hw4]; exact World.putObj_heap_other hx
        have hsz4 : w4.heap.size = w'.heap.size := by rw [← hw4]; simp
        have hdef : ([{ target := .collected w.heap.size, args := #[] }] : List Deferred) ++ a.defers = markD w.heap.size := by rw [hR.defers]; rfl
        show Q .normal _ w4
        rw [hdef]
        have f_os : w4.os = w'.os := by rw [← hw4]; rfl
        have f_tape : w4.tape = w'.tape := by rw [← hw4]; rfl
        have f_out : w4.output = w'.output := by rw [← hw4]; rfl
        have hS4 : ∀ x, S x → w4.heap[x]? = w0.heap[x]? := fun x hx => (hoth x (by have := hSlt x hx; omega)).trans ((hkE.block x (.inl hx)).trans (hWS x hx))
        refine hK S1 w4 w.heap.size e1 (fun x hx => .inl hx) (.inr (.inl rfl)) (fun h => by have := hSlt _ h; omega) ((hoth _ (by omega)).trans ((hkE.block _ (.inr (.inl rfl))).trans hD1)) ?_ hS4 ?_
        · exact ⟨((f_os.trans hkE.os).trans e_os).trans hk.os, ((f_tape.trans hkE.tape).trans e_tape).trans hk.tape, ((f_out.trans hkE.output).trans e_out).trans hk.output, by have := hk.size; have := hkE.size; omega, hS4, hk.old⟩
        · have hM4 : RelM (bs ++ e1) ρ S1 w4 memE w4 := by
            rw [← hme]
            refine hRE.mem.turn ho (fun i o b hi hmi hb => ?_) (keep_refl fun x hx => by have := hS1lt x hx; have := hkE.size; omega)
            have h1 := hRE.mem.own i o b hi hmi hb
            exact ⟨h1, hoth _ fun he => h1 (.inr (.inr he))⟩
          exact ⟨hR.size, fun i v hv => dv_mono e1 v (hR.slot i v hv), rfl, hM4, hR.pc⟩
    have hmlen : st.mem.length = bs.length := hR.mem.len.symm
    rw [hmlen] at hit
    have hargs : (#[.func (.yield (w.heap.size + 1)) #[] #[]] ++ lb.toArray : Array Value) = (.func (.yield (w.heap.size + 1)) #[] #[] :: lb).toArray := by simp
    rw [hargs]
    refine callsIn_of_wp (F := Fence.wide) hfn hcG trivial ?_
    show cG.wpIn (FR none) (n - 1) P _ _ W1
    split at hit
    · cases hit
    · rename_i x stE lsE hne hc
      split at hit
      · rename_i v0 hv0
        split at hit
        · rename_i hoE
          cases hit
          refine codeR_sound (δ := []) hcfg hN1 hρ m (.code cG) hc hrnd (e0 := []) (by rw [List.append_nil]; simpa using hR1) ?_
          intro e1 a' w' hRE
          have := fin stE e1 a' w' (by rw [hv0]; simp) hoE rfl hRE
          cases x with
          | normal => exact this
          | ret => exact this
          | exit id => exact (hne id rfl).elim
        · cases hit
      · cases hit
    · cases hit
end Go.SX

/- Symbolic execution of the model's code: a function that holds a range over a function. -/
namespace Go.SX
set_option linter.unusedSimpArgs false
set_option linter.unusedVariables false
variable {δ : List Deferred} {P : Program} {ρ : Env} {cfg : Cfg} {F : Nat → List Int → Int} {N : (Nat → Prop) → World → Prop} {S : Nat → Prop} {w0 w : World} {bs : List Ent} {Q : Exit → Act → World → Prop}
theorem wpL_append' {Fc : Fence} {n : Nat} : ∀ {l m : List Code} {a : Act} {w : World}, wpL Fc n P (Exit.then (wpL Fc n P Q m) Q) l a w → wpL Fc n P Q (l ++ m) a w
  | [], m, a, w, h => h
  | c :: l, m, a, w, h => wpIn_mono (c := c) h fun e a' w' h' => by
    cases e with
    | normal => exact wpL_append' (l := l) h'
    | _ => exact h'
theorem wpL_mono {Fc : Fence} {n : Nat} {Q Q' : Exit → Act → World → Prop} {l : List Code} {a : Act} {w : World} (h : wpL Fc n P Q l a w) (hq : ∀ e a w, Q e a w → Q' e a w) : wpL Fc n P Q' l a w := wpL_spine.wpL_mono' h hq

/-- The rest of a call behind a range over a function: its one end. -/
def restL (P : Program) (cfg : Cfg) (fuel : Nat) (fn : Func) (k : Nat) (l : List Code) (st : ASt) : Tree := runL P cfg fuel l st fun ex st => match ex with
  | .exit _ => .fail 102
  | _ => if ownAll st.mem = true then (match resultA P fn st with
    | some v => gcLeaf k v st.mem
    | none => .fail 103) else .fail 104

theorem comes_range (hcfg : CfgOk P cfg F N) (hst : Stays N) (hN : N S w0) (hρ : ρ.f = F) {f : FuncId} {fn : Func} {c : Code} (hfn : P.funcs[f]? = some fn) (hc : fn.body = some c) {id : Nat} {g : Operand} {p : Nat} {assign body : Code} {pre post : List Code}
    (hsp : spineC c = pre ++ .block id (.rangeFunc g #[p] assign body) :: post) {args : List AV} {mem : List AObj} {fuel m : Nat} {st1 : ASt} (hpre : pieceL P cfg fuel pre mem.length (begA fn args mem) = some st1)
    {gf : FuncId} {caps : AV} (hg : opd st1.slots g = some (.fn gf caps)) {fnG : Func} {cG : Code} (hfnG : P.funcs[gf]? = some fnG) (hcG : fnG.body = some cG) (hname : (fnG.name == "runtime.NumGoroutine") = false) (hown : ownAll st1.mem = true) {memE : List AObj}
    (hit : ∀ L, ∃ ls, iterT P cfg fuel m fnG cG (.fnx (.yield L) .nil :: caps.members) st1.mem (roundT P cfg fuel m assign body st1.slots p) = some (memE, ls) ∧ ∀ l ∈ ls, l = L)
    {v : AV} {mF : List AObj} (hrest : (restL P cfg fuel fn mem.length post { st1 with mem := memE }).one = some (v, mF))
    {vs : List Value} (hvs : dvl bs ρ args = some vs) (hm : RelM bs ρ S w0 mem w) : Comes P S w0 bs ρ f vs w v mF := by
  have hlen := dvl_length hvs
  have hml : mem.length = bs.length := hm.len.symm
  rw [hml] at hpre hrest
  refine callsIn_wide.1 (callsIn_of_wp_marks (F := Fence.wide) (n := 0) (R := fun e w' => ∃ ex z, e = .returned z ∧ dv (bs ++ ex) ρ v = some z ∧ RelM (bs ++ ex) ρ S w0 mF w') hfn hc trivial ?_)
  generalize hR : (fun e w' => ∃ ex z, e = Ending.returned z ∧ dv (bs ++ ex) ρ v = some z ∧ RelM (bs ++ ex) ρ S w0 mF w') = R
  refine wpL_spine c ?_
  rw [hsp]
  refine wpL_append' (wpL_mono (Q := fun e a w => e = .normal ∧ wpL Fence.wide 0 P (bodyPostM Fence.wide 0 P fn R) (.block id (.rangeFunc g #[p] assign body) :: post) a w) ?_ fun e a w h => by obtain ⟨rfl, h⟩ := h; exact h)
  refine pieceL_sound (δ := []) (bs := bs) (e0 := []) hcfg hN hpre ?_ hρ (fun _ _ _ h => by cases h.1) ?_
  · rw [List.append_nil]
    refine ⟨by simp [begA, hlen], ?_, rfl, hm, fun p hp => by cases hp⟩
    have := slots_map args vs (fn.ntmps - args.length) hvs
    simpa [begA, hlen] using this
  intro e0 a1 w1 hR1
  refine ⟨rfl, ?_⟩
  show (Code.block id (.rangeFunc g #[p] assign body)).wpIn Fence.wide 0 P (Exit.then (wpL Fence.wide 0 P (bodyPostM Fence.wide 0 P fn R) post) (bodyPostM Fence.wide 0 P fn R)) a1 w1
  refine wpIn_block (rangeFunc_ok (bs := bs ++ e0) hcfg hst hN hρ hg hfnG hcG hname hown hit hR1 ?_)
  intro S1 w4 D e1 hSS hD hDn hD4 hK4 hS4 hR4
  show wpL Fence.wide 0 P (bodyPostM Fence.wide 0 P fn R) post _ w4
  have hN4 : N S1 w4 := hst S S1 w0 w4 hN hSS hS4
  have hone := one_holds (ρ := ρ) (I := fun _ _ => True) hrest
  unfold restL at hone
  refine wpL_mono (Q := fun e a w => (e = .normal ∨ e = .ret) ∧ LeavesInM Fence.wide 0 P fn a.tmps R a.defers .returning w) ?_ fun e a w h => by
    obtain ⟨rfl | rfl, h⟩ := h <;> exact h
  refine runL_sound (bs := bs) (e0 := e0 ++ e1) hcfg hN4 (fun _ _ _ h => by rcases h.1 with h | h <;> cases h) hρ post hone (by rw [← List.append_assoc]; exact hR4) ?_
  intro ex e2 st' a' w' hR' hT'
  have fin : (if ownAll st'.mem = true then (match resultA P fn st' with
    | some v => gcLeaf bs.length v st'.mem
    | none => .fail 103) else .fail 104).holds (fun _ _ => True) (fun _ v' m' => v' = v ∧ m' = mF) ρ → LeavesInM Fence.wide 0 P fn a'.tmps R a'.defers .returning w' := by
    intro hT'
    split at hT'
    · rename_i ho
      split at hT'
      · rename_i v1 hv
        have hk' := hR'.mem.keep
        have hD' : w'.heap[D]? = some (.deferred (some [])) := (hk'.block D hD).trans hD4
        obtain ⟨w2, hw2⟩ : ∃ w2, w'.putObj D (.deferred none) = w2 := ⟨_, rfl⟩
        have hoth : ∀ x, x ≠ D → w2.heap[x]? = w'.heap[x]? := fun x hx => by rw [← hw2]; exact World.putObj_heap_other hx
        have hsz : w2.heap.size = w'.heap.size := by rw [← hw2]; simp
        have f_os : w2.os = w'.os := by rw [← hw2]; rfl
        have f_tape : w2.tape = w'.tape := by rw [← hw2]; rfl
        have f_out : w2.output = w'.output := by rw [← hw2]; rfl
        have hM2 : RelM (bs ++ e2) ρ S w0 st'.mem w2 := by
          refine hR'.mem.turn ho (fun i o b hi hmi hb => ?_) ?_
          · have h1 := hR'.mem.own i o b hi hmi hb
            exact ⟨fun h => h1 (hSS _ h), hoth _ fun he => h1 (he ▸ hD)⟩
          · exact ⟨(f_os.trans hk'.os).trans hK4.os, (f_tape.trans hk'.tape).trans hK4.tape, (f_out.trans hk'.output).trans hK4.output, by have := hK4.size; have := hk'.size; omega,
              fun x hx => (hoth x fun he => hDn (he ▸ hx)).trans ((hk'.block x (hSS x hx)).trans (hS4 x hx)), hK4.old⟩
        obtain ⟨z, hz, hrun⟩ := resultA_sound (P := P) (hR'.at hM2) hv
        rw [hR'.defers]
        refine ⟨by simp, .inl ⟨D, w2, rfl, by rw [← hw2]; exact run_takeDeferred hD', z, hrun, ?_⟩⟩
        rw [← hR]
        unfold gcLeaf at hT'
        simp only at hT'
        split at hT'
        · rename_i hg
          obtain ⟨h2, h3⟩ := hT'
          obtain ⟨ex', h4, h5⟩ := gc_sound hg hz hM2 bs e2 rfl rfl
          exact ⟨ex', z, rfl, by rw [← h2]; exact h4, by rw [← h3]; exact h5⟩
        · obtain ⟨h2, h3⟩ := hT'
          exact ⟨e2, z, rfl, by rw [← h2]; exact hz, by rw [← h3]; exact hM2⟩
      · exact hT'.elim
    · exact hT'.elim
  cases ex with
  | normal => exact ⟨.inl rfl, fin hT'⟩
  | ret => exact ⟨.inr rfl, fin hT'⟩
  | exit id => exact hT'.elim
end Go.SX

/- Symbolic execution of the model's code: a call with one loop, in pieces; a walk over a map. -/
namespace Go.SX
open Go.ChangeMaps (setBlock)
set_option linter.unusedSimpArgs false
set_option linter.unusedVariables false
variable {δ : List Deferred} {P : Program} {ρ : Env} {cfg : Cfg} {F : Nat → List Int → Int} {N : (Nat → Prop) → World → Prop} {S : Nat → Prop} {w0 w : World} {bs : List Ent} {Q : Exit → Act → World → Prop}

/-- How a call ends. -/
def finK (P : Program) (fn : Func) (k : Nat) (ex : AExit) (st : ASt) : Tree := match ex with
  | .exit _ => .fail 102
  | _ => match resultA P fn st with
    | some v => gcLeaf k v st.mem
    | none => .fail 103
theorem fin_ok {fn : Func} {v : AV} {m : List AObj} {ex : AExit} {st : ASt} {e1 : List Ent} {a : Act} (hR : RelS [] (bs ++ e1) ρ S w0 st a w) (hT : (finK P fn bs.length ex st).holds (fun _ _ => True) (fun _ v' m' => v' = v ∧ m' = m) ρ) :
    bodyPost P fn (fun e w' => ∃ ex z, e = .returned z ∧ dv (bs ++ ex) ρ v = some z ∧ RelM (bs ++ ex) ρ S w0 m w') ex.conc a w := by
  have fin : (match resultA P fn st with | some v => gcLeaf bs.length v st.mem | none => .fail 103).holds (fun _ _ => True) (fun _ v' m' => v' = v ∧ m' = m) ρ →
      a.defers = [] ∧ ∃ y, (results fn a.tmps).run P w = .ok y w ∧ ∃ ex z, Ending.returned y = .returned z ∧ dv (bs ++ ex) ρ v = some z ∧ RelM (bs ++ ex) ρ S w0 m w := by
    intro hT'
    split at hT'
    · rename_i v1 hv
      obtain ⟨z, hz, hrun⟩ := resultA_sound (P := P) hR hv
      unfold gcLeaf at hT'
      simp only at hT'
      split at hT'
      · rename_i hg
        obtain ⟨e2, e3⟩ := hT'
        obtain ⟨ex', h1, h2⟩ := gc_sound hg hz hR.mem bs e1 rfl rfl
        exact ⟨hR.defers, z, hrun, ex', z, rfl, by rw [← e2]; exact h1, by rw [← e3]; exact h2⟩
      · obtain ⟨e2, e3⟩ := hT'
        exact ⟨hR.defers, z, hrun, e1, z, rfl, by rw [← e2]; exact hz, by rw [← e3]; exact hR.mem⟩
    · exact hT'.elim
  cases ex with
  | normal => exact fin hT
  | ret => exact fin hT
  | exit id => exact hT.elim
theorem not_panic {fn : Func} {R : Value → World → Prop} : ∀ c a w, ¬ bodyPost P fn (fun e w' => ∃ z, e = .returned z ∧ R z w') (.panic c) a w := by
  rintro ch a' w' ⟨_, ⟨z, h, _⟩⟩
  cases h

/-! ### one loop -/
def lastT (P : Program) (cfg : Cfg) (fuel : Nat) (fn : Func) (k id : Nat) (b : Code) (post : List Code) (st : ASt) : Tree := runF P cfg fuel none (.rounds b) st fun ex st' => match ex with
  | .exit id' => if id' = id then runL P cfg fuel post st' (finK P fn k) else .fail 105
  | _ => .fail 106
theorem comes_loop (hcfg : CfgOk P cfg F N) (hN : N S w0) (hρ : ρ.f = F) {f : FuncId} {fn : Func} {c : Code} (hfn : P.funcs[f]? = some fn) (hc : fn.body = some c) {id : Nat} {b : Code} {pre post : List Code} (hsp : spineC c = pre ++ .block id (.loop b) :: post)
    {args : List AV} {mem : List AObj} {fuel n : Nat} {hs : Nat → ASt} (hpre : pieceL P cfg fuel pre mem.length (begA fn args mem) = some (hs 0)) (hround : ∀ i, i < n → pieceT P cfg fuel b mem.length (hs i) = some (hs (i + 1)))
    {v : AV} {m : List AObj} (hlast : (lastT P cfg fuel fn mem.length id b post (hs n)).one = some (v, m)) {vs : List Value} (hvs : dvl bs ρ args = some vs) (hm : RelM bs ρ S w0 mem w) : Comes P S w0 bs ρ f vs w v m := by
  have hml : mem.length = bs.length := hm.len.symm
  rw [hml] at hpre hlast hround
  refine comes_of_wp hfn hc hvs hm fun a hR => ?_
  generalize hQb : (bodyPost P fn fun e w' => ∃ ex z, e = .returned z ∧ dv (bs ++ ex) ρ v = some z ∧ RelM (bs ++ ex) ρ S w0 m w') = Qb
  have hQP : ∀ c a w, ¬ Qb (.panic c) a w := by
    rw [← hQb]
    rintro ch a' w' ⟨_, ex, z, h, _⟩
    cases h
  refine (wpIn_wide (n := 0)).1 (wpL_spine c ?_)
  rw [hsp]
  refine wpL_append' (wpL_mono (Q := fun e a w => e = .normal ∧ wpL Fence.wide 0 P Qb (.block id (.loop b) :: post) a w) ?_ fun e a w h => by obtain ⟨rfl, h⟩ := h; exact h)
  refine pieceL_sound (δ := []) (bs := bs) (e0 := []) hcfg hN hpre (by rw [List.append_nil]; exact hR) hρ (fun _ _ _ h => by cases h.1) ?_
  intro e0 a1 w1 hR1
  refine ⟨rfl, ?_⟩
  show (Code.block id (.loop b)).wpIn Fence.wide 0 P (Exit.then (wpL Fence.wide 0 P Qb post) Qb) a1 w1
  refine wpIn_block ((wpIn_wide (n := 0)).2 (wp_loop_rounds (n + fuel) ?_))
  have key : ∀ d, d ≤ n → ∀ e a w, RelS [] (bs ++ e) ρ S w0 (hs (n - d)) a w → Code.rounds P b (Exit.inBlock id (Exit.then (wpL Fence.wide 0 P Qb post) Qb)) (d + fuel) a w := by
    intro d
    induction d with
    | zero =>
      intro _ e a w hR
      rw [Nat.zero_add]
      have hhold := one_holds (ρ := ρ) (I := fun _ _ => True) hlast
      unfold lastT at hhold
      rw [runF_eq] at hhold
      rw [Nat.sub_zero] at hR
      refine run_sound hcfg hN fuel [] none (.rounds b) (hs n) _ (bs ++ e) ρ a w (Exit.inBlock id (Exit.then (wpL Fence.wide 0 P Qb post) Qb)) (fun _ => True) (fun _ => True) hR hρ hhold ?_ (fun c a w h => hQP c a w h) (fun _ _ _ _ _ _ _ h => by cases h)
      intro ρ' ex bs' st1 a2 w2 hx hf hR2 hT2
      obtain ⟨hρe, e1, hbs'⟩ := hx
      have hbs2 : bs' = bs ++ (e ++ e1) := by rw [hbs', List.append_assoc]
      subst hbs2
      rw [hρe] at hR2 hT2
      cases ex with
      | normal => exact hT2.elim
      | ret => exact hT2.elim
      | exit id' =>
        simp only at hT2
        split at hT2
        · rename_i he
          show Exit.inBlock id (Exit.then (wpL Fence.wide 0 P Qb post) Qb) (.exit id') a2 w2
          simp only [Exit.inBlock, he, if_true]
          show wpL Fence.wide 0 P Qb post a2 w2
          refine runL_sound (δ := []) hcfg hN hQP hρ post hT2 hR2 ?_
          intro ex e3 st3 a3 w3 hR3 hT3
          rw [← hQb]
          exact fin_ok hR3 hT3
        · exact hT2.elim
    | succ d ih =>
      intro hd e a w hR
      rw [show d + 1 + fuel = (d + fuel) + 1 by omega, rounds_succ]
      have hr := hround (n - (d + 1)) (by omega)
      rw [show n - (d + 1) + 1 = n - d by omega] at hr
      refine wp_mono (piece_sound (Q := fun e a w => e = .normal ∧ Code.rounds P b (Exit.inBlock id (Exit.then (wpL Fence.wide 0 P Qb post) Qb)) (d + fuel) a w) hcfg hN hr hR hρ (fun _ _ _ h => by cases h.1) fun e1 a' w' hR' => ⟨rfl, ih (by omega) e1 a' w' hR'⟩) ?_
      rintro e a w ⟨rfl, h⟩
      exact h
  exact key n (Nat.le_refl _) e0 a1 w1 (by rw [Nat.sub_self]; exact hR1)

/-! ### a walk over a map -/
theorem wpOps_hand {ops : Array Oper} {i : Nat} {rest : List Nat} {o : Oper} (ho : ops[i]? = some o) (hg : o.guard = none) {a : Act} {z : Value} {w' : World} (hrun : (execOp a.eval o).run P w = .ok (.value z) w') (h : wpOps P ops Q rest (a.put o.dst z) w') :
    wpOps P ops Q (i :: rest) a w := by
  rw [wpOps_cons]
  unfold wpOp
  rw [ho]
  simp only
  rw [if_pos (by simp [Region.wanted, hg])]
  refine .inl ?_
  unfold Oper.wp
  rw [hrun]
  exact h
/-- Some operations of a region, one after the other. -/
def opsP (P : Program) (cfg : Cfg) (fuel : Nat) (ops : Array Oper) (k : Nat) : List Nat → ASt → Option ASt
  | [], st => some st
  | i :: r, st => match stepA P cfg fuel ops k i st with
    | some st' => opsP P cfg fuel ops k r st'
    | none => none
theorem opsP_sound (hcfg : CfgOk P cfg F N) (hN : N S w0) {fuel : Nat} {ops : Array Oper} (hρ : ρ.f = F) {rest : List Nat} : ∀ (l : List Nat) {st st' : ASt}, opsP P cfg fuel ops bs.length l st = some st' → ∀ {e0 : List Ent} {a : Act} {w : World}, RelS δ (bs ++ e0) ρ S w0 st a w →
    (∀ (e1 : List Ent) (a' : Act) (w' : World), RelS δ (bs ++ e1) ρ S w0 st' a' w' → wpOps P ops Q rest a' w') → wpOps P ops Q (l ++ rest) a w
  | [], st, st', h, e0, a, w, hR, hK => by cases h; exact hK _ _ _ hR
  | i :: r, st, st', h, e0, a, w, hR, hK => by
    simp only [opsP] at h
    split at h
    · rename_i st1 hst
      rw [List.cons_append, wpOps_cons]
      have h1 := wpOp_swap (Q' := Q) (step_sound hcfg hN hst hR hρ (K := fun a' w' => wpOps P ops Q (r ++ rest) a' w') fun e1 a' w' hR1 => opsP_sound hcfg hN hρ r h hR1 hK) (fun c a w h => by cases h.1) (fun a w h => by cases h.1)
      exact wpOp_mono (fun a' w' h => h.2) h1
    · cases h
/-- A round: behind 'next' and behind 'entry'. -/
def isPtr (x : Option (Option AV)) (n : Nat) : Bool := match x with
  | some (some (.ptr i o)) => Nat.beq i n && Nat.beq o 0
  | _ => false
theorem isPtr_spec {x : Option (Option AV)} {n : Nat} (h : isPtr x n = true) : x = some (some (.ptr n 0)) := by
  unfold isPtr at h
  split at h
  · simp only [Bool.and_eq_true] at h
    rw [Nat.eq_of_beq_eq_true h.1, Nat.eq_of_beq_eq_true h.2]
  · cases h
def beqSt (s t : ASt) : Bool := beqSl s.slots t.slots && beqM s.mem t.mem && nilP s.pc && nilP t.pc
theorem nilP_spec {l : List (SE × Bool)} (h : nilP l = true) : l = [] := by
  cases l with
  | nil => rfl
  | cons _ _ => cases h
theorem beqSt_eq {s t : ASt} (h : beqSt s t = true) : s = t := by
  simp only [beqSt, Bool.and_eq_true] at h
  obtain ⟨⟨⟨h1, h2⟩, h3⟩, h4⟩ := h
  cases s; cases t
  simp only at h1 h2 h3 h4
  rw [beqSl_eq h1, beqM_eq h2, nilP_spec h3, nilP_spec h4]
def roundM (P : Program) (cfg : Cfg) (fuel : Nat) (opsA opsB : Array Oper) (cnd : Code) (restB : List Code) (tn te ti k : Nat) (h : ASt) (key val : AV) : Option ASt :=
  match opsP P cfg fuel opsA k ((List.range (opsA.size - 1)).map (· + 1)) { h with slots := h.slots.set tn (some (.tuple (ofList [.bool (.lit 1), key, val]))) } with
  | none => none
  | some sB => match pieceL P cfg fuel [cnd] k sB with
    | none => none
    | some sC => match opsP P cfg fuel opsB k ((List.range (opsB.size - 1)).map (· + 1)) { sC with slots := sC.slots.set te (some (.tuple (ofList [key, val]))) } with
      | none => none
      | some sD => match pieceL P cfg fuel restB k sD with
        | none => none
        | some sE => if (isPtr sC.slots[ti]? (k - 1) && isPtr sE.slots[ti]? (k - 1) && ownAll sE.mem) = true then some sE else none
def lastM (P : Program) (cfg : Cfg) (fuel : Nat) (fn : Func) (opsA : Array Oper) (cnd : Code) (post : List Code) (tn k0 id im : Nat) (mp : AObj) (h : ASt) : Tree :=
  runF P cfg fuel none (.ops opsA ((List.range (opsA.size - 1)).map (· + 1))) { h with slots := h.slots.set tn (some (.tuple (ofList [.bool (.lit 0)]))) } fun ex st => match ex with
    | .normal => runF P cfg fuel none (.code cnd) st fun ex st => match ex with
      | .exit id' => if id' = id ∧ ownAll st.mem = true ∧ im < st.mem.length then runL P cfg fuel post { st with mem := st.mem.set im mp } (finK P fn k0) else .fail 105
      | _ => .fail 106
    | _ => .fail 107
theorem range_cons {n : Nat} (h : 0 < n) : List.range n = 0 :: (List.range (n - 1)).map (· + 1) := by
  obtain ⟨m, rfl⟩ : ∃ m, n = m + 1 := ⟨n - 1, by omega⟩
  rw [List.range_succ_eq_map]
  rfl
/-- What is left of a walk. -/
def leftW (r bm : Nat) (w : World) : Nat := match w.heap[r]?, w.heap[bm]? with
  | some (.mapIter _ _ seen _), some (.map es _) => (leftOf es seen).size
  | _, _ => 0

theorem run_rangeMap {t : TypeId} {kt et : TypeId} {x : Operand} {o : Oper} (ho : o.op = .range t x) (ht : P.underlying t = some (.map kt et)) {e : Operand → Value} {bm : Nat} (hx : e x = .map (some bm)) {es : Array MapEntry} {clock : Nat} (hheap : w.heap[bm]? = some (.map es clock)) :
    (execOp e o).run P w = .ok (.value (.pointer (some ⟨w.heap.size, 0, none⟩))) (w.alloc (.mapIter (some bm) clock #[] clock)) := by
  obtain ⟨dst, op, type, pos, after, guard⟩ := o
  simp only at ho
  subst ho
  have hget := Go.MapKept.run_getObj_map (P := P) hheap
  simp [execOp, Instr.range, run_underlying ht, hx, hget, newObj, Sem.run]
theorem run_nextOp {x : Operand} {o : Oper} (ho : o.op = .next x false) {e : Operand → Value} {p z : Value} (hx : e x = p) {w' : World} (h : (Instr.next p false o.type).run P w = .ok z w') : (execOp e o).run P w = .ok (.value z) w' := by
  obtain ⟨dst, op, type, pos, after, guard⟩ := o
  simp only at ho h
  subst ho
  simp [execOp, hx, h]
theorem run_entryOp {x : Operand} {o : Oper} (ho : o.op = .entry x) {e : Operand → Value} {p z : Value} (hx : e x = p) {w' : World} (h : (Instr.entry p).run P w = .ok z w') : (execOp e o).run P w = .ok (.value z) w' := by
  obtain ⟨dst, op, type, pos, after, guard⟩ := o
  simp only at ho h
  subst ho
  simp [execOp, hx, h]

theorem comes_maploop (hcfg : CfgOk P cfg F N) (hst : Stays N) (hN : N S w0) (hρ : ρ.f = F) {f : FuncId} {fn : Func} {c : Code} (hfn : P.funcs[f]? = some fn) (hc : fn.body = some c)
    {id rr ra rb j nR : Nat} {opsR opsA opsB : Array Oper} {oR oA oB : Oper} {b cB : Code} {cnd : Code} {pre post restB : List Code} {tm ti tn te : Nat} {T kt et : TypeId}
    (hsp : spineC c = pre ++ .region rr opsR false :: .block id (.loop b) :: post) (hsR : opsR.size = nR + 1) (hoR : opsR[nR]? = some oR) (hRop : oR.op = .range T (.tmp tm)) (hRg : oR.guard = none) (hRd : oR.dst = some ti) (hT : P.underlying T = some (.map kt et))
    (hb : spineC b = [.region ra opsA false, cnd, .block j cB]) (hoA : opsA[0]? = some oA) (hAop : oA.op = .next (.tmp ti) false) (hAg : oA.guard = none) (hAd : oA.dst = some tn)
    (hcB : spineC cB = .region rb opsB false :: restB) (hoB : opsB[0]? = some oB) (hBop : oB.op = .entry (.tmp ti)) (hBg : oB.guard = none) (hBd : oB.dst = some te)
    {args : List AV} {mem : List AObj} {fuel im k : Nat} {ks : List MK} {vs : List AV} {st1 st2 h0 : ASt} {heads : List ASt}
    (hpre : pieceL P cfg fuel pre mem.length (begA fn args mem) = some st1) (hR1 : opsP P cfg fuel opsR mem.length (List.range nR) st1 = some st2) (hpc : st2.pc = []) (hown : ownAll st2.mem = true) (hmap : st2.slots[tm]? = some (some (.mapv im))) (him : st2.mem[im]? = some (.mp ks vs))
    (hks : ks ≠ []) (hh0 : h0 = { slots := st2.slots.set ti (some (.ptr st2.mem.length 0)), mem := st2.mem.set im .dead ++ [.dead], pc := [] }) (hk : k = st2.mem.length + 1)
    (hti0 : ti < st2.slots.length) (hround : ∀ h ∈ h0 :: heads, ∀ (q : MK) (v : AV), (q, v) ∈ ks.zip vs → ∃ h' ∈ heads, roundM P cfg fuel opsA opsB cnd restB tn te ti k h q.av v = some h')
    {v : AV} {m : List AObj} (hlast : ∀ h ∈ heads, (lastM P cfg fuel fn opsA cnd post tn mem.length id im (.mp ks vs) h).one = some (v, m))
    {vals : List Value} (hvs : dvl bs ρ args = some vals) (hm : RelM bs ρ S w0 mem w) : Comes P S w0 bs ρ f vals w v m := by
  have hml : mem.length = bs.length := hm.len.symm
  rw [hml] at hpre hlast hR1
  refine comes_of_wp hfn hc hvs hm fun a hR => ?_
  generalize hQb : (bodyPost P fn fun e w' => ∃ ex z, e = .returned z ∧ dv (bs ++ ex) ρ v = some z ∧ RelM (bs ++ ex) ρ S w0 m w') = Qb
  have hQP : ∀ c a w, ¬ Qb (.panic c) a w := by
    rw [← hQb]
    rintro ch a' w' ⟨_, ex, z, h, _⟩
    cases h
  refine (wpIn_wide (n := 0)).1 (wpL_spine c ?_)
  rw [hsp]
  refine wpL_append' (wpL_mono (Q := fun e a w => e = .normal ∧ wpL Fence.wide 0 P Qb (.region rr opsR false :: .block id (.loop b) :: post) a w) ?_ fun e a w h => by obtain ⟨rfl, h⟩ := h; exact h)
  refine pieceL_sound (δ := []) (bs := bs) (e0 := []) hcfg hN hpre (by rw [List.append_nil]; exact hR) hρ (fun _ _ _ h => by cases h.1) ?_
  intro e0 a1 w1 hR1'
  refine ⟨rfl, ?_⟩
  show (Code.region rr opsR false).wpIn Fence.wide 0 P (Exit.then (wpL Fence.wide 0 P Qb (.block id (.loop b) :: post)) Qb) a1 w1
  refine (wpIn_wide (n := 0)).2 (wp_region ?_)
  rw [hsR, List.range_succ]
  refine opsP_sound hcfg hN hρ (List.range nR) hR1 hR1' ?_
  intro e1 a2 w2 hR2
  -- the walk is made
  obtain ⟨bE, hbE, us, es, clock, hus, ⟨hnd, hok⟩, hlen, hheap, l, hes, hperm, hborn, hclk⟩ := hR2.mem.rel im _ him
  have hmv : a2.eval (.tmp tm) = .map (some bE.blk) := by
    have := hR2.slot tm _ hmap
    simp only [dv, hbE, Option.map_some, Option.some.injEq] at this
    exact this.symm
  refine wpOps_hand hoR hRg (run_rangeMap hRop hT hmv hheap) ?_
  show (Exit.then (wpL Fence.wide 0 P Qb (.block id (.loop b) :: post)) Qb) .normal _ _
  show (Code.block id (.loop b)).wpIn Fence.wide 0 P (Exit.then (wpL Fence.wide 0 P Qb post) Qb) _ _
  obtain ⟨w3, hw3⟩ : ∃ w3, w2.alloc (.mapIter (some bE.blk) clock #[] clock) = w3 := ⟨_, rfl⟩
  obtain ⟨r, hr⟩ : ∃ r, w2.heap.size = r := ⟨_, rfl⟩
  rw [hw3, hr, hRd]
  have hbmlt : bE.blk < r := by rw [← hr]; exact (Array.getElem?_eq_some_iff.1 hheap).1
  have hold3 : ∀ x, x < r → w3.heap[x]? = w2.heap[x]? := fun x hx => by rw [← hw3]; exact heap_alloc_old w2 _ (by rw [hr]; exact hx)
  have hr3 : w3.heap[r]? = some (.mapIter (some bE.blk) clock #[] clock) := by rw [← hw3, ← hr]; exact World.alloc_heap_new w2 _
  have hsz3 : w3.heap.size = r + 1 := by rw [← hw3, World.size_alloc, hr]
  have hbm3 : w3.heap[bE.blk]? = some (.map es clock) := (hold3 _ hbmlt).trans hheap
  have hk2 := hR2.mem.keep
  have hSlt : ∀ x, S x → x < r := fun x hx => by have := hk2.old x hx; have := hk2.size; omega
  have f_os : w3.os = w2.os := by rw [← hw3]; rfl
  have f_tape : w3.tape = w2.tape := by rw [← hw3]; rfl
  have f_out : w3.output = w2.output := by rw [← hw3]; rfl
  let S2 : Nat → Prop := fun x => S x ∨ x = bE.blk ∨ x = r
  have hnotS : ¬ S bE.blk := hR2.mem.own im _ bE him rfl hbE
  have hborn' : (es.toList.map (·.born)).Nodup := by
    rw [hes, List.map_map]
    exact hborn
  have hold' : ∀ x ∈ es.toList, x.born < clock := by
    intro x hx
    rw [hes] at hx
    obtain ⟨p, hp, rfl⟩ := List.mem_map.1 hx
    exact hclk p hp
  have hmlen : st2.mem.length = (bs ++ e1).length := hR2.mem.len.symm
  generalize hbs1 : bs ++ e1 ++ [(⟨r, 0, 0, none, 0⟩ : Ent)] = bs1
  have hbs1l : bs1.length = k := by rw [← hbs1, hk, List.length_append, hmlen]; rfl
  have hbs1r : bs1[st2.mem.length]? = some ⟨r, 0, 0, none, 0⟩ := by rw [← hbs1, hmlen, List.getElem?_append_right (Nat.le_refl _)]; simp
  have hbs1m : ∀ (i : Nat) (e : Ent), (bs ++ e1)[i]? = some e → bs1[i]? = some e := fun i e h => by
    rw [← hbs1, List.getElem?_append_left (List.getElem?_eq_some_iff.1 h).1]; exact h
  -- what is kept of the caller's
  let G : World → Prop := fun w => (∀ x, S x → w.heap[x]? = w0.heap[x]?) ∧ w.os = w0.os ∧ w.tape = w0.tape ∧ w.output = w0.output ∧ w0.heap.size ≤ w.heap.size ∧ w.heap[bE.blk]? = some (.map es clock) ∧ r < w.heap.size
  let J : Act → World → Prop := fun a w => ∃ (e : List Ent) (h : ASt) (seen : Array Nat) (c0 : Nat), RelS [] (bs1 ++ e) ρ S2 w h a w ∧ w.heap[r]? = some (.mapIter (some bE.blk) clock seen c0) ∧ clock ≤ c0 ∧ G w ∧ h ∈ h0 :: heads ∧
    (h ∈ heads ∨ seen = #[]) ∧ isPtr h.slots[ti]? (k - 1) = true ∧ ownAll h.mem = true
  have hGk : ∀ w w', G w → Keep S2 w w' → G w' := by
    rintro w w' ⟨g1, g2, g3, g4, g5, g6, g7⟩ hk
    exact ⟨fun x hx => (hk.block x (.inl hx)).trans (g1 x hx), hk.os.trans g2, hk.tape.trans g3, hk.output.trans g4, Nat.le_trans g5 hk.size, (hk.block _ (.inr (.inl rfl))).trans g6, Nat.lt_of_lt_of_le g7 hk.size⟩
  have hN3 : ∀ w, G w → N S2 w := fun w hg => hst S S2 w0 w hN (fun x hx => .inl hx) hg.1
  have hevr : ∀ {e : List Ent} {wb w : World} {h : ASt} {a : Act}, RelS [] (bs1 ++ e) ρ S2 wb h a w → isPtr h.slots[ti]? (k - 1) = true → a.eval (.tmp ti) = .pointer (some ⟨r, 0, none⟩) := by
    intro e wb w h a hR hp
    have h1 := isPtr_spec hp
    have := hR.slot ti _ h1
    have hidx : (bs1 ++ e)[k - 1]? = some ⟨r, 0, 0, none, 0⟩ := by
      rw [show k - 1 = st2.mem.length by omega, List.getElem?_append_left (List.getElem?_eq_some_iff.1 hbs1r).1]; exact hbs1r
    simp only [dv, hidx, Option.map_some, Option.some.injEq] at this
    exact this.symm
  have hpost : ∀ (st : ASt) (e : List Ent) (a : Act) (w : World), (runL P cfg fuel post { st with mem := st.mem.set im (.mp ks vs) } (finK P fn bs.length)).holds (fun _ _ => True) (fun _ v' m' => v' = v ∧ m' = m) ρ → ownAll st.mem = true → im < st.mem.length →
      (∃ wb, RelS [] (bs1 ++ e) ρ S2 wb st a w) → G w → wpL Fence.wide 0 P Qb post a w := by
    rintro st e a w hT ho hlt ⟨wb, hR⟩ ⟨g1, g2, g3, g4, g5, g6, g7⟩
    have hapart : ∀ (i : Nat) (o : AObj) (b : Ent), st.mem[i]? = some o → o.mine = true → (bs1 ++ e)[i]? = some b → ¬ S b.blk ∧ b.blk ≠ bE.blk := fun i o b h1 h2 h3 => by
      have := hR.mem.own i o b h1 h2 h3
      exact ⟨fun h => this (.inl h), fun h => this (.inr (.inl h))⟩
    have hbi : (bs1 ++ e)[im]? = some bE := by
      have := hbs1m im bE hbE
      rw [List.getElem?_append_left (List.getElem?_eq_some_iff.1 this).1]; exact this
    have hget : ∀ (i : Nat) (o : AObj), (st.mem.set im (.mp ks vs))[i]? = some o → (i = im ∧ o = .mp ks vs) ∨ (i ≠ im ∧ st.mem[i]? = some o) := fun i o h => by
      rw [List.getElem?_set] at h
      split at h
      · rename_i he
        subst he
        first
          | (cases h; exact .inl ⟨rfl, rfl⟩)
          | (rw [if_pos hlt] at h; cases h; exact .inl ⟨rfl, rfl⟩)
      · rename_i he
        exact .inr ⟨fun h => he h.symm, h⟩
    have hM : RelM (bs1 ++ e) ρ S w0 (st.mem.set im (.mp ks vs)) w := by
      refine ⟨by rw [List.length_set]; exact hR.mem.len, fun i o hi => ?_, fun i o b hi hmi hb => ?_, fun i j o o' b b' hij hi hj hmi hoc hb hb' => ?_, g2, g3, g4, g5, g1, hk2.old⟩
      · rcases hget i o hi with ⟨rfl, rfl⟩ | ⟨hne, h1⟩
        · refine ⟨bE, hbi, us, es, clock, ?_, ⟨hnd, hok⟩, hlen, g6, l, hes, hperm, hborn, hclk⟩
          rw [← hbs1]
          have := dvl_mono ([(⟨r, 0, 0, none, 0⟩ : Ent)] ++ e) hus
          rw [List.append_assoc]
          exact this
        · exact hR.mem.rel i o h1
      · rcases hget i o hi with ⟨rfl, rfl⟩ | ⟨hne, h1⟩
        · rw [hbi] at hb; cases hb; exact hnotS
        · exact (hapart i o b h1 hmi hb).1
      · rcases hget i o hi with ⟨rfl, rfl⟩ | ⟨hne, h1⟩ <;> rcases hget j o' hj with ⟨rfl, rfl⟩ | ⟨hne', h1'⟩
        · exact absurd rfl hij
        · rw [hbi] at hb; cases hb
          rcases ownAll_spec ho h1' with hmi' | rfl
          · exact fun h => (hapart j o' b' h1' hmi' hb').2 h.symm
          · exact hoc.elim
        · rw [hbi] at hb'; cases hb'
          exact (hapart i o b h1 hmi hb).2
        · exact hR.mem.apart i j o o' b b' hij h1 h1' hmi hoc hb hb'
    have hRS : RelS [] (bs1 ++ e) ρ S w0 { st with mem := st.mem.set im (.mp ks vs) } a w := ⟨hR.size, hR.slot, hR.defers, hM, hR.pc⟩
    have hbse : bs1 ++ e = bs ++ (e1 ++ [(⟨r, 0, 0, none, 0⟩ : Ent)] ++ e) := by rw [← hbs1]; simp
    rw [hbse] at hRS
    refine runL_sound (δ := []) hcfg hN hQP hρ post hT hRS ?_
    intro ex e3 st3 a3 w3 hR3 hT3
    rw [← hQb]
    exact fin_ok hR3 hT3
  refine wpIn_block ((wpIn_wide (n := 0)).2 (wp_loop J (fun _ w => leftW r bE.blk w) ?_ ?_))
  · -- at the start
    have hG3 : G w3 := ⟨fun x hx => (hold3 x (hSlt x hx)).trans (hk2.block x hx), f_os.trans hk2.os, f_tape.trans hk2.tape, f_out.trans hk2.output, by have := hk2.size; omega, hbm3, by omega⟩
    have hapart2 : ∀ (i : Nat) (o : AObj) (b : Ent), (st2.mem.set im .dead ++ [.dead])[i]? = some o → o.mine = true → bs1[i]? = some b → st2.mem[i]? = some o ∧ i ≠ im ∧ (bs ++ e1)[i]? = some b := fun i o b h1 h2 h3 => by
      by_cases hi : i < st2.mem.length
      · rw [List.getElem?_append_left (by rw [List.length_set]; exact hi), List.getElem?_set] at h1
        split at h1
        · rename_i he
          split at h1
          · cases h1; cases h2
          · cases h1
        · rename_i he
          refine ⟨h1, fun h => he h.symm, ?_⟩
          rw [← hbs1, List.getElem?_append_left (by rw [← hmlen]; exact hi)] at h3
          exact h3
      · rw [List.getElem?_append_right (by rw [List.length_set]; omega)] at h1
        cases hq : i - (st2.mem.set im AObj.dead).length with
        | zero => rw [hq] at h1; cases h1; cases h2
        | succ n => rw [hq] at h1; cases h1
    have hM3 : RelM bs1 ρ S2 w3 (st2.mem.set im .dead ++ [.dead]) w3 := by
      refine ⟨by rw [hbs1l, hk]; simp, fun i o hi => ?_, fun i o b hi hmi hb => ?_, fun i j o o' b b' hij hi hj hmi hoc hb hb' => ?_, keep_refl fun x hx => by
        rcases hx with h | h | h
        · have := hSlt x h; omega
        · omega
        · omega⟩
      · by_cases hi2 : i < st2.mem.length
        · have hi' := hi
          rw [List.getElem?_append_left (by rw [List.length_set]; exact hi2), List.getElem?_set] at hi
          split at hi
          · rename_i he
            split at hi
            · cases hi
              obtain ⟨b, hb, _⟩ := hR2.mem.rel im _ him
              exact ⟨b, hbs1m i b (he ▸ hb), trivial⟩
            · cases hi
          · obtain ⟨b, hb, hrel⟩ := hR2.mem.rel i o hi
            refine ⟨b, hbs1m i b hb, ?_⟩
            rw [← hbs1]
            exact (hrel.same fun hoc => hold3 _ (by rw [← hr]; exact hrel.lt hoc)).mono _
        · rw [List.getElem?_append_right (by rw [List.length_set]; omega)] at hi
          cases hq : i - (st2.mem.set im AObj.dead).length with
          | zero =>
            rw [hq] at hi; cases hi
            have : i = st2.mem.length := by rw [List.length_set] at hq; omega
            subst this
            exact ⟨_, hbs1r, trivial⟩
          | succ n => rw [hq] at hi; cases hi
      · obtain ⟨h1, h2, h3⟩ := hapart2 i o b hi hmi hb
        have h4 := hR2.mem.own i o b h1 hmi h3
        obtain ⟨b', h5, h6⟩ := hR2.mem.rel i o h1
        rw [h3] at h5; cases h5
        have h7 := h6.lt (Occ.mine hmi)
        rintro (h | h | h)
        · exact h4 h
        · exact hR2.mem.apart i im o _ b bE h2 h1 him hmi trivial h3 hbE h
        · omega
      · obtain ⟨h1, h2, h3⟩ := hapart2 i o b hi hmi hb
        have hmi' : o'.mine = true := by
          have : ownAll (st2.mem.set im .dead ++ [.dead]) = true := by
            refine List.all_eq_true.2 fun x hx => ?_
            rcases List.mem_append.1 hx with hx | hx
            · rcases List.mem_or_eq_of_mem_set hx with hx | rfl
              · exact List.all_eq_true.1 hown x hx
              · rfl
            · rw [List.mem_singleton.1 hx]; rfl
          rcases ownAll_spec this hj with h | rfl
          · exact h
          · exact hoc.elim
        obtain ⟨h1', h2', h3'⟩ := hapart2 j o' b' hj hmi' hb'
        exact hR2.mem.apart i j o o' b b' hij h1 h1' hmi hoc h3 h3'
    have hz : dv (bs1 ++ []) ρ (.ptr st2.mem.length 0) = some (.pointer (some ⟨r, 0, none⟩)) := by
      rw [List.append_nil]
      simp only [dv, hbs1r, Option.map_some]
    have hRs : RelS [] (bs1 ++ []) ρ S2 w3 { slots := st2.slots, mem := st2.mem.set im .dead ++ [.dead], pc := [] } a2 w3 := by
      refine ⟨hR2.size, fun i v hv => ?_, hR2.defers, by rw [List.append_nil]; exact hM3, fun p hp => by cases hp⟩
      rw [List.append_nil, ← hbs1]
      exact dv_mono _ v (hR2.slot i v hv)
    have hR0 := hRs.put (some ti) hz
    refine ⟨[], h0, #[], clock, ?_, hr3, Nat.le_refl _, hG3, List.mem_cons_self .., .inr rfl, ?_, ?_⟩
    · rw [hh0]; exact hR0
    · rw [hh0, hk]
      simp [isPtr, List.getElem?_set, hti0]
    · rw [hh0]
      refine List.all_eq_true.2 fun x hx => ?_
      rcases List.mem_append.1 hx with hx | hx
      · rcases List.mem_or_eq_of_mem_set hx with hx | rfl
        · exact List.all_eq_true.1 hown x hx
        · rfl
      · rw [List.mem_singleton.1 hx]; rfl
  · -- a round
    rintro a w ⟨e, h, seen, c0, hRh, hrw, hc0, hG, hmem, hseen, hptr, ho⟩
    have hNb := hN3 w hG
    refine (wpIn_wide (n := 0)).1 (wpL_spine b ?_)
    rw [hb]
    generalize hQl : Exit.then (fun a' w' => J a' w' ∧ leftW r bE.blk w' < leftW r bE.blk w) (Exit.inBlock id (Exit.then (wpL Fence.wide 0 P Qb post) Qb)) = Ql
    have hQlP : ∀ c a w, ¬ Ql (.panic c) a w := by
      rw [← hQl]
      exact fun c a w h => hQP c a w h
    show (Code.region ra opsA false).wpIn Fence.wide 0 P (Exit.then (wpL Fence.wide 0 P Ql [cnd, .block j cB]) Ql) a w
    refine (wpIn_wide (n := 0)).2 (wp_region ?_)
    have hApos : 0 < opsA.size := (Array.getElem?_eq_some_iff.1 hoA).1
    rw [range_cons hApos]
    have hev := hevr hRh hptr
    rcases run_next_at (P := P) w oA.type r bE.blk clock c0 seen es clock hrw hG.2.2.2.2.2.1 hold' hc0 with ⟨hz, hrun⟩ | ⟨en, hen, w4, hw4, hrun⟩
    · -- nothing is left
      have hh : h ∈ heads := by
        rcases hseen with h1 | rfl
        · exact h1
        · exfalso
          have h1 : leftOf es #[] = es := by
            unfold leftOf
            exact Array.filter_eq_self.2 fun x hx => by simp
          rw [h1] at hz
          have h2 : l.length = 0 := by
            have := congrArg List.length hes
            simp only [Array.length_toList, List.length_map] at this
            omega
          have h3 := hperm.length_eq
          rw [List.length_map, h2, List.length_zip, ← hlen, Nat.min_self] at h3
          exact hks (List.length_eq_zero_iff.1 h3.symm)
      refine wpOps_hand hoA hAg (run_nextOp hAop hev hrun) ?_
      rw [hAd]
      have hRn := hRh.put (some tn) (v := .tuple (ofList [.bool (.lit 0)])) (z := .tuple #[.bool false]) rfl
      have hhold := one_holds (ρ := ρ) (I := fun _ _ => True) (hlast h hh)
      unfold lastM at hhold
      rw [runF_eq] at hhold
      refine run_sound hcfg hNb fuel [] none (.ops opsA _) _ _ (bs1 ++ e) ρ _ w (Exit.then (wpL Fence.wide 0 P Ql [cnd, .block j cB]) Ql) (fun _ => True) (fun _ => True) hRn hρ hhold ?_ (fun c a w h => hQlP c a w h) (fun _ _ _ _ _ _ _ h => by cases h)
      intro ρ' ex bs' st5 a5 w5 hx hf hR5 hT5
      obtain ⟨hρe, e5, hbs5⟩ := hx
      have hbs5' : bs' = bs1 ++ (e ++ e5) := by rw [hbs5, List.append_assoc]
      subst hbs5'
      rw [hρe] at hR5 hT5
      cases ex with
      | ret => exact hT5.elim
      | exit id' => exact hT5.elim
      | normal =>
        simp only at hT5
        show cnd.wpIn Fence.wide 0 P (Exit.then (wpL Fence.wide 0 P Ql [.block j cB]) Ql) a5 w5
        refine (wpIn_wide (n := 0)).2 ?_
        refine run_sound hcfg hNb fuel [] none (.code cnd) _ _ (bs1 ++ (e ++ e5)) ρ _ w5 (Exit.then (wpL Fence.wide 0 P Ql [.block j cB]) Ql) (fun _ => True) (fun _ => True) hR5 hρ hT5 ?_ (fun c a w h => hQlP c a w h) (fun _ _ _ _ _ _ _ h => by cases h)
        intro ρ2 ex bs6 st6 a6 w6 hx hf hR6 hT6
        obtain ⟨hρe2, e6, hbs6⟩ := hx
        have hbs6' : bs6 = bs1 ++ (e ++ e5 ++ e6) := by rw [hbs6, List.append_assoc]
        subst hbs6'
        rw [hρe2] at hR6 hT6
        cases ex with
        | normal => exact hT6.elim
        | ret => exact hT6.elim
        | exit id' =>
          simp only at hT6
          split at hT6
          · rename_i hc
            show Ql (.exit id') a6 w6
            rw [← hQl]
            show Exit.inBlock id (Exit.then (wpL Fence.wide 0 P Qb post) Qb) (.exit id') a6 w6
            simp only [Exit.inBlock, hc.1, if_true]
            show wpL Fence.wide 0 P Qb post a6 w6
            exact hpost st6 _ a6 w6 hT6 hc.2.1 hc.2.2 ⟨w, hR6⟩ (hGk w w6 hG hR6.mem.keep)
          · exact hT6.elim
    · -- an entry that is left
      obtain ⟨hin, _⟩ := mem_left hen
      have hshr := left_shrinks es seen en hen
      obtain ⟨w5, hw5⟩ : ∃ w5, setBlock w4 r (.mapIter (some bE.blk) clock (seen.push en.born) clock) = w5 := ⟨_, rfl⟩
      rw [hw5] at hrun
      have hh4 : w4.heap = w.heap := by rcases hw4 with rfl | rfl <;> rfl
      have hrlt : r < w.heap.size := (Array.getElem?_eq_some_iff.1 hrw).1
      have hoth5 : ∀ x, x ≠ r → w5.heap[x]? = w.heap[x]? := fun x hx => by
        rw [← hw5]
        show (w4.heap.setIfInBounds r _)[x]? = _
        rw [hh4, Array.getElem?_setIfInBounds_ne (Ne.symm hx)]
      have hsame5 : w5.heap[r]? = some (.mapIter (some bE.blk) clock (seen.push en.born) clock) := by
        rw [← hw5]
        show (w4.heap.setIfInBounds r _)[r]? = _
        rw [hh4]; simp [hrlt]
      have hsz5 : w5.heap.size = w.heap.size := by
        rw [← hw5]
        show (w4.heap.setIfInBounds r _).size = _
        rw [hh4]; simp
      have g_os : w5.os = w.os := by rw [← hw5]; rcases hw4 with rfl | rfl <;> rfl
      have g_tape : w5.tape = w.tape := by rw [← hw5]; rcases hw4 with rfl | rfl <;> rfl
      have g_out : w5.output = w.output := by rw [← hw5]; rcases hw4 with rfl | rfl <;> rfl
      have hG5 : G w5 := by
        obtain ⟨g1, g2, g3, g4, g5, g6, g7⟩ := hG
        exact ⟨fun x hx => (hoth5 x (by have := hSlt x hx; omega)).trans (g1 x hx), g_os.trans g2, g_tape.trans g3, g_out.trans g4, by omega, (hoth5 _ (by omega)).trans g6, by omega⟩
      have hS2lt : ∀ x, S2 x → x < w5.heap.size := fun x hx => by
        rcases hx with h | h | h
        · have := hSlt x h; omega
        · omega
        · omega
      have hN5 := hN3 w5 hG5
      have hM5 : RelM (bs1 ++ e) ρ S2 w5 h.mem w5 := hRh.mem.turn ho (fun i o b hi hmi hb => by
        have h1 := hRh.mem.own i o b hi hmi hb
        exact ⟨h1, hoth5 _ fun he => h1 (.inr (.inr he))⟩) (keep_refl hS2lt)
      -- which one it is
      obtain ⟨q, u, vv, hzip, hkey, hval, hqok, hdv⟩ : ∃ (q : MK) (u : Value) (vv : AV), (q, vv) ∈ ks.zip vs ∧ en.key = q.val ∧ en.val = u ∧ q.ok = true ∧ ∀ e, dv (bs1 ++ e) ρ vv = some u := by
        rw [hes] at hin
        obtain ⟨p, hp, rfl⟩ := List.mem_map.1 hin
        have h1 : p.1 ∈ ks.zip us := hperm.subset (List.mem_map.2 ⟨p, hp, rfl⟩)
        obtain ⟨i, hi⟩ := List.mem_iff_getElem?.1 h1
        rw [List.getElem?_zip_eq_some] at hi
        have hvl : vs.length = us.length := (dvl_length hus).symm
        have hilt : i < vs.length := by rw [hvl]; exact (List.getElem?_eq_some_iff.1 hi.2).1
        obtain ⟨z, hz1, hz2⟩ := dvl_get hus (List.getElem?_eq_getElem hilt)
        rw [hi.2] at hz1
        cases hz1
        refine ⟨p.1.1, p.1.2, vs[i], List.mem_iff_getElem?.2 ⟨i, ?_⟩, rfl, rfl, ?_, ?_⟩
        · rw [List.getElem?_zip_eq_some]
          exact ⟨hi.1, List.getElem?_eq_getElem hilt⟩
        · exact List.all_eq_true.1 hok _ (List.mem_of_getElem? hi.1)
        · intro e
          rw [← hbs1, List.append_assoc]
          exact dv_mono _ _ hz2
      have hz : dv (bs1 ++ e) ρ (.tuple (ofList [.bool (.lit 1), q.av, vv])) = some (.tuple #[.bool true, en.key, en.val]) := by
        have h1 : dv (bs1 ++ e) ρ (.bool (.lit 1)) = some (.bool true) := rfl
        simp only [dv, dvs_ofList, dvl, h1, dv_key hqok, hdv, Option.bind_some, Option.map_some, hkey, hval]
        rfl
      obtain ⟨h', hh', hrm⟩ := hround h hmem q vv hzip
      refine wpOps_hand hoA hAg (run_nextOp hAop hev hrun) ?_
      rw [hAd]
      have hRn := (hRh.at hM5).put (some tn) hz
      unfold roundM at hrm
      split at hrm
      · cases hrm
      · rename_i sB hB
        split at hrm
        · cases hrm
        · rename_i sC hC
          split at hrm
          · cases hrm
          · rename_i sD hD
            split at hrm
            · cases hrm
            · rename_i sE hE
              split at hrm
              · rename_i hcond
                cases hrm
                simp only [Bool.and_eq_true] at hcond
                rw [← hbs1l] at hB hC hD hE
                rw [← List.append_nil ((List.range (opsA.size - 1)).map (· + 1))]
                refine opsP_sound (δ := []) hcfg hN5 hρ _ hB hRn ?_
                intro e6 a6 w6 hR6
                show wpL Fence.wide 0 P Ql ([cnd] ++ [.block j cB]) a6 w6
                refine wpL_append' (wpL_mono (Q := fun e a w => e = .normal ∧ wpL Fence.wide 0 P Ql [.block j cB] a w) ?_ fun e a w h => by obtain ⟨rfl, h⟩ := h; exact h)
                refine pieceL_sound (δ := []) hcfg hN5 hC hR6 hρ (fun _ _ _ h => by cases h.1) ?_
                intro e7 a7 w7 hR7
                refine ⟨rfl, ?_⟩
                show (Code.block j cB).wpIn Fence.wide 0 P (Exit.then (wpL Fence.wide 0 P Ql []) Ql) a7 w7
                refine wpIn_block (wpL_spine cB ?_)
                rw [hcB]
                generalize hQ1 : Exit.inBlock j (Exit.then (wpL Fence.wide 0 P Ql []) Ql) = Q1
                have hQ1P : ∀ c a w, ¬ Q1 (.panic c) a w := by
                  rw [← hQ1]
                  exact fun c a w h => hQlP c a w h
                show (Code.region rb opsB false).wpIn Fence.wide 0 P (Exit.then (wpL Fence.wide 0 P Q1 restB) Q1) a7 w7
                refine (wpIn_wide (n := 0)).2 (wp_region ?_)
                have hBpos : 0 < opsB.size := (Array.getElem?_eq_some_iff.1 hoB).1
                rw [range_cons hBpos]
                have hk7 := hR7.mem.keep
                have hG7 := hGk w5 w7 hG5 hk7
                have hr7 : w7.heap[r]? = some (.mapIter (some bE.blk) clock (seen.push en.born) clock) := (hk7.block r (.inr (.inr rfl))).trans hsame5
                have hev7 := hevr hR7 hcond.1.1
                refine wpOps_hand hoB hBg (run_entryOp hBop hev7 (run_entry_at w7 r bE.blk clock seen es clock en hr7 hG7.2.2.2.2.2.1 hin hborn')) ?_
                rw [hBd]
                have hze7 : dv (bs1 ++ e7) ρ (.tuple (ofList [q.av, vv])) = some (.tuple #[en.key, en.val]) := by
                  simp only [dv, dvs_ofList, dvl, dv_key hqok, hdv, Option.bind_some, Option.map_some, hkey, hval]
                have hRe := hR7.put (some te) hze7
                rw [← List.append_nil ((List.range (opsB.size - 1)).map (· + 1))]
                refine opsP_sound (δ := []) hcfg hN5 hρ _ hD hRe ?_
                intro e8 a8 w8 hR8
                show wpL Fence.wide 0 P Q1 restB a8 w8
                refine wpL_mono (Q := fun e a w => e = .normal ∧ Q1 .normal a w) ?_ fun e a w h => by obtain ⟨rfl, h⟩ := h; exact h
                refine pieceL_sound (δ := []) hcfg hN5 hE hR8 hρ (fun _ _ _ h => by cases h.1) ?_
                intro e9 a9 w9 hR9
                refine ⟨rfl, ?_⟩
                rw [← hQ1, ← hQl]
                have hk9 := hR9.mem.keep
                have hG9 := hGk w5 w9 hG5 hk9
                have hr9 : w9.heap[r]? = some (.mapIter (some bE.blk) clock (seen.push en.born) clock) := (hk9.block r (.inr (.inr rfl))).trans hsame5
                refine ⟨⟨e9, _, seen.push en.born, clock, hR9.at (hR9.mem.turn hcond.2 (fun i o b hi hmi hb => ⟨hR9.mem.own i o b hi hmi hb, rfl⟩) (keep_refl fun x hx => by have := hS2lt x hx; have := hk9.size; omega)), hr9, Nat.le_refl _, hG9, List.mem_cons_of_mem _ hh', .inl hh', hcond.1.2, hcond.2⟩, ?_⟩
                show leftW r bE.blk w9 < leftW r bE.blk w
                unfold leftW
                rw [hr9, hG9.2.2.2.2.2.1, hrw, hG.2.2.2.2.2.1]
                exact hshr
              · cases hrm
end Go.SX

/- Symbolic execution of the model's code: a call with one drawn region, by the levels of its table. -/
namespace Go.SX
set_option linter.unusedSimpArgs false
set_option linter.unusedVariables false
variable {δ : List Deferred} {P : Program} {ρ : Env} {cfg : Cfg} {F : Nat → List Int → Int} {N : (Nat → Prop) → World → Prop} {S : Nat → Prop} {w0 w : World} {bs : List Ent} {Q : Exit → Act → World → Prop}
/-- Some levels of a table. -/
def nextsT (P : Program) (ops : Array Oper) (ds : List Nat) (m0 m1 : List AObj) (step : Nat → ASt → Option ASt) : Nat → List TE → Option (List TE)
  | 0, es => some es
  | n + 1, es => match doneT ops es with
    | some _ => none
    | none => match nextT P ops ds m0 m1 step es [] with
      | some es' => nextsT P ops ds m0 m1 step n es'
      | none => none
theorem nexts_tbl {ops : Array Oper} {ds : List Nat} {m0 m1 : List AObj} {step : Nat → ASt → Option ASt} {f : Nat} {stf : ASt} : ∀ {n : Nat} {es es' : List TE}, nextsT P ops ds m0 m1 step n es = some es' → tblT P ops ds m0 m1 step f es' = some stf → tblT P ops ds m0 m1 step (f + n) es = some stf
  | 0, es, es', h, ht => by cases h; exact ht
  | n + 1, es, es', h, ht => by
    simp only [nextsT] at h
    split at h
    · cases h
    · rename_i hd
      split at h
      · rename_i e1 hn
        exact tbl_next hd hn (nexts_tbl h ht)
      · cases h
/-- More turns do no harm. -/
theorem tbl_more {ops : Array Oper} {ds : List Nat} {m0 m1 : List AObj} {step : Nat → ASt → Option ASt} {stf : ASt} : ∀ {f : Nat} {es : List TE}, tblT P ops ds m0 m1 step f es = some stf → ∀ g, tblT P ops ds m0 m1 step (f + g) es = some stf
  | 0, es, h, g => by cases h
  | f + 1, es, h, g => by
    rw [show f + 1 + g = (f + g) + 1 by omega]
    simp only [tblT] at h ⊢
    cases hd : doneT ops es with
    | some st => rw [hd] at h; exact h
    | none =>
      rw [hd] at h
      simp only at h ⊢
      cases hn : nextT P ops ds m0 m1 step es [] with
      | none => rw [hn] at h; cases h
      | some es' =>
        rw [hn] at h
        exact tbl_more h g
theorem comes_tbl (hcfg : CfgOk P cfg F N) (hN : N S w0) (hρ : ρ.f = F) {f : FuncId} {fn : Func} {c : Code} (hfn : P.funcs[f]? = some fn) (hc : fn.body = some c) {id : Nat} {ops : Array Oper} {pre post : List Code} (hsp : spineC c = pre ++ .region id ops true :: post)
    {args : List AV} {mem : List AObj} {fuel : Nat} {st1 stf : ASt} {ds ks : List Nat} (hpre : pieceL P cfg fuel pre mem.length (begA fn args mem) = some st1) (hst : startT P ops ds st1.mem (strike st1.mem ks) (stepA P cfg fuel ops st1.mem.length) st1 = some stf)
    {v : AV} {m : List AObj} (hlast : (runL P cfg fuel post stf (finK P fn mem.length)).one = some (v, m)) {vs : List Value} (hvs : dvl bs ρ args = some vs) (hm : RelM bs ρ S w0 mem w) : Comes P S w0 bs ρ f vs w v m := by
  have hml : mem.length = bs.length := hm.len.symm
  rw [hml] at hpre hlast
  refine comes_of_wp hfn hc hvs hm fun a hR => ?_
  generalize hQb : (bodyPost P fn fun e w' => ∃ ex z, e = .returned z ∧ dv (bs ++ ex) ρ v = some z ∧ RelM (bs ++ ex) ρ S w0 m w') = Qb
  have hQP : ∀ c a w, ¬ Qb (.panic c) a w := by
    rw [← hQb]
    rintro ch a' w' ⟨_, ex, z, h, _⟩
    cases h
  refine (wpIn_wide (n := 0)).1 (wpL_spine c ?_)
  rw [hsp]
  refine wpL_append' (wpL_mono (Q := fun e a w => e = .normal ∧ wpL Fence.wide 0 P Qb (.region id ops true :: post) a w) ?_ fun e a w h => by obtain ⟨rfl, h⟩ := h; exact h)
  refine pieceL_sound (δ := []) (bs := bs) (e0 := []) hcfg hN hpre (by rw [List.append_nil]; exact hR) hρ (fun _ _ _ h => by cases h.1) ?_
  intro e0 a1 w1 hR1
  refine ⟨rfl, ?_⟩
  show (Code.region id ops true).wpIn Fence.wide 0 P (Exit.then (wpL Fence.wide 0 P Qb post) Qb) a1 w1
  refine (wpIn_wide (n := 0)).2 (region_sound (bs := bs ++ e0) hcfg hN hst hR1 hρ (fun c a w h => hQP c a w h) ?_)
  intro e1 a2 w2 hR2
  show wpL Fence.wide 0 P Qb post a2 w2
  have hhold := one_holds (ρ := ρ) (I := fun _ _ => True) hlast
  refine runL_sound (δ := []) (bs := bs) (e0 := e0 ++ e1) hcfg hN hQP hρ post hhold (by rw [← List.append_assoc]; exact hR2) ?_
  intro ex e3 st3 a3 w3 hR3 hT3
  rw [← hQb]
  exact fin_ok hR3 hT3
/-- All rounds lead to heads. -/
def closedM (P : Program) (cfg : Cfg) (fuel : Nat) (opsA opsB : Array Oper) (cnd : Code) (restB : List Code) (tn te ti k : Nat) (hs heads : List ASt) (ks : List MK) (vs : List AV) : Bool :=
  hs.all fun h => (ks.zip vs).all fun p => match roundM P cfg fuel opsA opsB cnd restB tn te ti k h p.1.av p.2 with
    | some h' => heads.any (beqSt h')
    | none => false
theorem closedM_spec {fuel : Nat} {opsA opsB : Array Oper} {cnd : Code} {restB : List Code} {tn te ti k : Nat} {hs heads : List ASt} {ks : List MK} {vs : List AV} (h : closedM P cfg fuel opsA opsB cnd restB tn te ti k hs heads ks vs = true) :
    ∀ x ∈ hs, ∀ (q : MK) (v : AV), (q, v) ∈ ks.zip vs → ∃ h' ∈ heads, roundM P cfg fuel opsA opsB cnd restB tn te ti k x q.av v = some h' := by
  intro x hx q v hq
  have h1 := List.all_eq_true.1 (List.all_eq_true.1 h x hx) (q, v) hq
  simp only at h1
  split at h1
  · rename_i h' hr
    obtain ⟨y, hy, hb⟩ := List.any_eq_true.1 h1
    exact ⟨y, hy, by rw [hr, beqSt_eq hb]⟩
  · cases h1
def lastAll (P : Program) (cfg : Cfg) (fuel : Nat) (fn : Func) (opsA : Array Oper) (cnd : Code) (post : List Code) (tn k0 id im : Nat) (mp : AObj) (heads : List ASt) (v : AV) (m : List AObj) : Bool :=
  heads.all fun h => match (lastM P cfg fuel fn opsA cnd post tn k0 id im mp h).one with
    | some (v', m') => beqA v' v && beqM m' m
    | none => false
theorem lastAll_spec {fuel : Nat} {fn : Func} {opsA : Array Oper} {cnd : Code} {post : List Code} {tn k0 id im : Nat} {mp : AObj} {heads : List ASt} {v : AV} {m : List AObj} (h : lastAll P cfg fuel fn opsA cnd post tn k0 id im mp heads v m = true) :
    ∀ x ∈ heads, (lastM P cfg fuel fn opsA cnd post tn k0 id im mp x).one = some (v, m) := by
  intro x hx
  have h1 := List.all_eq_true.1 h x hx
  split at h1
  · rename_i v' m' hr
    simp only [Bool.and_eq_true] at h1
    rw [hr, beqA_eq h1.1, beqM_eq h1.2]
  · cases h1
/-- The executor's words under contracts that hold under N. -/
theorem cfgN_ok {F : Nat → List Int → Int} (hmx : P.follows .mixedOrders = true) {ok : List FuncId} (hok : okB P ok = true) (hst : Stays N) {l : List (FuncId × Pat)} (hl : ∀ p ∈ l, SumOkN P F N p.1 p.2) {tbl : Nat} {wr : FuncId → List Nat} (G : Nat → List Int → Int) (hG : ∀ j, 100 ≤ j → j < 200 → G j = F j) :
    CfgOk P { ok := ok, sums := sumsOf l, loops := [], tbl := tbl, wr := wr } G N :=
  { mixed := hmx
    names := okB_spec hok
    sums := fun f a m out h S w0 bs ρ w vs v mem' hN hρ hvs hm hp => sumsOfN_sound hst hl hN h (fun j hj hj2 => by rw [hρ]; exact hG j hj hj2) hvs hm hp
    holes := fun c st x st' h => by cases h }
end Go.SX
