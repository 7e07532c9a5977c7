/- Symbolic execution of the model's code, 3 of 3 (the parts of wip/sx joined by wip/merge.py). No conditions. -/
import Derived.Test.YtableianhaojcaaSX2
import GoSem.ClaimData
/- Symbolic execution of the model's code, part 12: from a tree to a call. -/
namespace Go.SX
set_option linter.unusedSimpArgs false
set_option linter.unusedVariables false
variable {P : Program} {S : Nat → Prop} {w0 w : World} {bs : List Ent} {ρ : Env} {I : Nat → Env → Prop} {L : Env → AV → List AObj → Prop} {cfg : Cfg} {F : Nat → List Int → Int}

/-- The tree of a call: of the memory behind it the first 'keep' blocks are told. -/
def callT (P : Program) (cfg : Cfg) (fuel keep f : Nat) (args : List AV) (mem : List AObj) (pc : List (SE × Bool)) : Tree :=
  match P.funcs[f]? with
  | none => .fail 100
  | some fn => match fn.body with
    | none => .fail 101
    | some c => run P cfg fuel (some []) (.code c) { slots := args.map some ++ List.replicate (fn.ntmps - args.length) (some (.tuple .nil)), mem, pc } fun ex st =>
      match ex with
      | .exit _ => .fail 102
      | _ => match resultA P fn st with
        | some v => .leaf v (st.mem.take keep)
        | none => .fail 103

theorem calls_run (hcfg : CfgOk P cfg F) {fuel keep f : Nat} {args : List AV} {mem : List AObj} {pc : List (SE × Bool)} {vs : List Value} (hT : (callT P cfg fuel keep f args mem pc).holds I L ρ) (hρ : ρ.f = F)
    (hpc : ∀ p ∈ pc, evB ρ p.1 = p.2) (hvs : dvl bs ρ args = some vs) (hm : RelM bs ρ S w0 mem w) {R : Ending → World → Prop}
    (hL : ∀ (ρ' : Env) (bs' : List Ent) (v : AV) (m mem' : List AObj) (w' : World) (z : Value), ρ'.f = F → L ρ' v m → m = mem'.take keep → dv bs' ρ' v = some z → RelM bs' ρ' S w0 mem' w' → R (.returned z) w') :
    Calls P f vs.toArray w R := by
  unfold callT at hT
  split at hT
  · exact hT.elim
  · rename_i fn hfn
    split at hT
    · exact hT.elim
    · rename_i c hc
      have hlen := dvl_length hvs
      refine (calls_of_wp (R := fun e w' => ∃ z, e = .returned z ∧ R e w') hfn hc ?_).mono fun e w' ⟨z, he, h⟩ => h
      refine run_sound (S := S) (w0 := w0) hcfg fuel (some []) (.code c) _ _ bs ρ _ w _ (fun _ => True) (fun _ => True) ?_ hρ hT ?_ ?_ (fun _ _ _ _ _ _ _ h => by cases h)
      · refine ⟨by simp [hlen], ?_, rfl, hm, hpc⟩
        have := slots_map args vs (fn.ntmps - args.length) hvs
        simpa [hlen] using this
      · intro ρ' ex bs' st' a' w' hx hf hR' hT'
        have fin : (match resultA P fn st' with | some v => Tree.leaf v (st'.mem.take keep) | none => .fail 103).holds I L ρ' →
            a'.defers = [] ∧ ∃ v, (results fn a'.tmps).run P w' = .ok v w' ∧ ∃ z, Ending.returned v = .returned z ∧ R (.returned v) w' := by
          intro hT'
          split at hT'
          · rename_i v hv
            obtain ⟨z, hz, hrun⟩ := resultA_sound (P := P) hR' hv
            exact ⟨hR'.defers, z, hrun, z, rfl, hL ρ' bs' v _ st'.mem w' z hf hT' rfl hz hR'.mem⟩
          · exact hT'.elim
        cases ex with
        | normal => exact fin hT'
        | ret => exact fin hT'
        | exit id => exact hT'.elim
      · rintro ch a' w' ⟨_, z, h, _⟩
        cases h

/-- What a law asks of its end. -/
def saysTrue (ρ : Env) (v : AV) (_ : List AObj) : Prop :=
  match v with
  | .bool e => evB ρ e = true
  | _ => False

/-- A law: its tree's ends all say true; no block of the start has turned. -/
theorem law_run (hcfg : CfgOk P cfg F) {fuel f : Nat} {args : List AV} {mem : List AObj} {pc : List (SE × Bool)} {vs : List Value} {W : World} (hT : (callT P cfg fuel 0 f args mem pc).holds I saysTrue ρ) (hρ : ρ.f = F)
    (hpc : ∀ p ∈ pc, evB ρ p.1 = p.2) (hvs : dvl bs ρ args = some vs) (hm : RelM bs ρ (· < W.heap.size) W mem W) :
    Calls P f vs.toArray W fun e w' => e = .returned (.bool true) ∧ RowKit.Below W.heap.size W w' := by
  refine calls_run hcfg hT hρ hpc hvs hm ?_
  rintro ρ' bs' v m mem' w' z hf hv _ hz hR
  unfold saysTrue at hv
  split at hv
  · cases hz
    rw [hv]
    exact ⟨rfl, hR.keep.os, hR.keep.tape, hR.keep.output, hR.keep.size, fun k hk => hR.keep.block k hk⟩
  · exact hv.elim

/-- The arguments' memory at a law's start: nothing of it is the call's own. -/
theorem RelM.foreign {mem : List AObj} {W : World} (hl : bs.length = mem.length) (hm : MRel bs ρ mem W) (hno : mem.all (fun o => !o.mine) = true) : RelM bs ρ (· < W.heap.size) W mem W := by
  have no : ∀ (i : Nat) o, mem[i]? = some o → o.mine = true → False := fun i o ho hmi => by
    have := List.all_eq_true.1 hno o (List.mem_of_getElem? ho)
    rw [hmi] at this
    cases this
  exact ⟨hl, hm, fun i o b ho hmi => (no i o ho hmi).elim, fun i j o o' b b' _ ho _ hmi => (no i o ho hmi).elim, ⟨rfl, rfl, rfl, Nat.le_refl _, fun _ _ => rfl, fun _ h => h⟩⟩

/-- What is known of an argument that is a row of numbers. -/
def IsRow (k : IntKind) (w : World) (a : Option Addr) (len cap : Nat) (zs : List Int) : Prop :=
  (a = none ∧ len = 0 ∧ cap = 0 ∧ zs = []) ∨
  ∃ x, a = some x ∧ len ≤ cap ∧ cap ≤ maxLen ∧ zs.length = cap ∧ (∀ i, i < zs.length → w.cell? (x.add i) = some (.int k (zs.getD i 0))) ∧ ∀ n ∈ zs, (Lit.int k n).wf = true
def entOf (a : Option Addr) (len cap : Nat) : Ent := { blk := (a.map (·.block)).getD 0, cap := cap, base := (a.map (·.off)).getD 0, addr := a, len := len }
theorem wf_inR {k : IntKind} {n : Int} (h : (Lit.int k n).wf = true) : inR k n = true := by
  unfold inR
  simpa [Lit.wf] using h
theorem orel_row {k : IntKind} {W : World} {a : Option Addr} {len cap : Nat} {zs : List Int} (h : IsRow k W a len cap zs) {n c : SE} {j : Nat} {ty : TypeId} (hn : den ρ n = len) (hc : den ρ c = cap)
    (hf : ∀ i : Nat, i < zs.length → ρ.f j [(i : Int)] = zs.getD i 0) : ORel bs ρ W (entOf a len cap) (.sym n c [(k, j)] ty) := by
  have e1 : len = (den ρ n).toNat := by omega
  have e2 : cap = (den ρ c).toNat := by omega
  rcases h with ⟨rfl, rfl, rfl, rfl⟩ | ⟨x, rfl, hle, hmax, hz, hcell, hwf⟩
  · exact ⟨e1, e2, by omega, by omega, by omega, fun h => by omega⟩
  · refine ⟨e1, e2, by omega, by omega, by unfold maxLen at hmax; omega, fun h => ?_⟩
    have h0 := hcell 0 (by omega)
    have hx : x.add 0 = x := by simp [Addr.add]
    rw [hx] at h0
    have hspot : x.spot = none := by
      unfold World.cell? at h0
      split at h0
      · split at h0
        · cases h0
        · rename_i hs; simpa using hs
      · cases h0
    obtain ⟨b, o, s⟩ := x
    simp only at hspot
    subst hspot
    refine ⟨rfl, World.block_lt_of_cell? W _ h0, fun i q p hi hp => ?_⟩
    have hq : q = 0 := by
      have := (List.getElem?_eq_some_iff.1 hp).1
      simpa using this
    subst hq
    cases hp
    have h1 := hcell i (by omega)
    have e3 : (⟨b, o, none⟩ : Addr).add i = ⟨b, o + i, none⟩ := add_at b o i
    rw [e3] at h1
    rw [hf i (by omega)]
    refine ⟨by simpa [entOf] using h1, wf_inR (hwf _ ?_)⟩
    have hlt : i < zs.length := by omega
    rw [List.getD_eq_getElem?_getD, List.getElem?_eq_getElem hlt]
    exact List.getElem_mem hlt

/-- The letters of a law: its numbers, and its arguments' rows. -/
def mkEnv (F : Nat → List Int → Int) (vals : List Int) (rows : List (List Int)) : Env :=
  { v := fun i => vals.getD i 0, f := fun j l => if j < rows.length then (rows.getD j []).getD (l.headD 0).toNat 0 else F j l }
theorem mkEnv_f {F : Nat → List Int → Int} {vals : List Int} {rows : List (List Int)} {j : Nat} (h : rows.length ≤ j) : (mkEnv F vals rows).f j = F j := by
  funext l
  show (if j < rows.length then _ else F j l) = _
  rw [if_neg (by omega)]
theorem dvl_mk {a : AV} {l : List AV} {v : Value} {vs : List Value} (h : dv bs ρ a = some v) (h' : dvl bs ρ l = some vs) : dvl bs ρ (a :: l) = some (v :: vs) := by
  simp only [dvl, h, h', Option.bind_some, Option.map_some]
theorem dvl_none : dvl bs ρ [] = some [] := rfl
theorem dv_agg_mk {l : List AV} {vs : List Value} (h : dvl bs ρ l = some vs) : dv bs ρ (.agg (ofList l)) = some (.agg vs.toArray) := by
  simp only [dv, dvs_ofList, h, Option.map_some]
theorem mrel_nil {W : World} : MRel bs ρ [] W := fun i o h => by simp at h
theorem mrel_one {W : World} {b : Ent} {o : AObj} (h : ORel [b] ρ W b o) : MRel [b] ρ [o] W := fun i p hp => by
  cases i with
  | zero => cases hp; exact ⟨b, rfl, h⟩
  | succ i => simp at hp
theorem mrel_two {W : World} {b c : Ent} {o q : AObj} (h : ORel [b, c] ρ W b o) (h' : ORel [b, c] ρ W c q) : MRel [b, c] ρ [o, q] W := fun i p hp => by
  cases i with
  | zero => cases hp; exact ⟨b, rfl, h⟩
  | succ i => cases i with
    | zero => cases hp; exact ⟨c, rfl, h'⟩
    | succ i => simp at hp
theorem mrel_three {W : World} {b c d : Ent} {o q r : AObj} (h : ORel [b, c, d] ρ W b o) (h' : ORel [b, c, d] ρ W c q) (h'' : ORel [b, c, d] ρ W d r) : MRel [b, c, d] ρ [o, q, r] W := fun i p hp => by
  cases i with
  | zero => cases hp; exact ⟨b, rfl, h⟩
  | succ i => cases i with
    | zero => cases hp; exact ⟨c, rfl, h'⟩
    | succ i => cases i with
      | zero => cases hp; exact ⟨d, rfl, h''⟩
      | succ i => simp at hp
theorem row_inR {k : IntKind} {W : World} {a : Option Addr} {len cap : Nat} {zs : List Int} (h : IsRow k W a len cap zs) (i : Int) (h0 : 0 ≤ i) (h1 : i < len) : inR k (zs.getD i.toNat 0) = true := by
  rcases h with ⟨rfl, rfl, rfl, rfl⟩ | ⟨x, rfl, hle, hmax, hz, hcell, hwf⟩
  · omega
  · have hlt : i.toNat < zs.length := by omega
    refine wf_inR (hwf _ ?_)
    rw [List.getD_eq_getElem?_getD, List.getElem?_eq_getElem hlt]
    exact List.getElem_mem hlt
theorem row_le {k : IntKind} {W : World} {a : Option Addr} {len cap : Nat} {zs : List Int} (h : IsRow k W a len cap zs) : (len : Int) ≤ cap := by
  rcases h with ⟨rfl, rfl, rfl, rfl⟩ | ⟨x, rfl, hle, _⟩ <;> omega
/-- Functions that may be entered. -/
def okB (P : Program) (l : List FuncId) : Bool := l.all fun f => match P.funcs[f]? with
  | some fn => (fn.name == "runtime.NumGoroutine") == false && fn.body.isSome
  | none => false
theorem okB_spec {P : Program} {l : List FuncId} (h : okB P l = true) : ∀ f ∈ l, ∃ fn, P.funcs[f]? = some fn ∧ (fn.name == "runtime.NumGoroutine") = false ∧ fn.body.isSome = true := by
  intro f hf
  have := List.all_eq_true.1 h f hf
  split at this
  · rename_i fn hfn
    simp only [Bool.and_eq_true, beq_iff_eq] at this
    exact ⟨fn, hfn, this.1, this.2⟩
  · cases this

theorem RelM.nil (W : World) (ρ : Env) : RelM [] ρ (· < W.heap.size) W [] W :=
  ⟨rfl, fun i o h => by simp at h, fun i o b h => by simp at h, fun i j o o' b b' _ h => by simp at h, ⟨rfl, rfl, rfl, Nat.le_refl _, fun _ _ => rfl, fun _ h => h⟩⟩

end Go.SX

/- Symbolic execution of the model's code, part 13: words for reading a tree. -/
namespace Go.SX
variable {ρ : Env}
theorem ev_lss (a b : SE) : (evB ρ (.cmp .lss a b) = true) = (den ρ a < den ρ b) := by
  rw [evB, den, ofB_bne]; exact propext ⟨fun h => of_decide_eq_true h, fun h => decide_eq_true h⟩
theorem ev_lss' (a b : SE) : (evB ρ (.cmp .lss a b) = false) = (den ρ b ≤ den ρ a) := by
  rw [evB, den, ofB_bne]; exact propext ⟨fun h => by have := of_decide_eq_false h; omega, fun h => decide_eq_false (by omega)⟩
theorem ev_leq (a b : SE) : (evB ρ (.cmp .leq a b) = true) = (den ρ a ≤ den ρ b) := by
  rw [evB, den, ofB_bne]; exact propext ⟨fun h => of_decide_eq_true h, fun h => decide_eq_true h⟩
theorem ev_leq' (a b : SE) : (evB ρ (.cmp .leq a b) = false) = (den ρ b < den ρ a) := by
  rw [evB, den, ofB_bne]; exact propext ⟨fun h => by have := of_decide_eq_false h; omega, fun h => decide_eq_false (by omega)⟩
theorem ev_eql (a b : SE) : (evB ρ (.cmp .eql a b) = true) = (den ρ a = den ρ b) := by
  rw [evB, den, ofB_bne]; simp [cmpI]
theorem ev_eql' (a b : SE) : (evB ρ (.cmp .eql a b) = false) = (den ρ a ≠ den ρ b) := by
  rw [evB, den, ofB_bne]; simp [cmpI]
theorem ev_neq (a b : SE) : (evB ρ (.cmp .neq a b) = true) = (den ρ a ≠ den ρ b) := by
  rw [evB, den, ofB_bne]; simp [cmpI]
theorem ev_neq' (a b : SE) : (evB ρ (.cmp .neq a b) = false) = (den ρ a = den ρ b) := by
  rw [evB, den, ofB_bne]; simp [cmpI]
theorem ev_not (a : SE) : (evB ρ (.not a) = true) = (evB ρ a = false) := by
  rw [evB, den, ofB_bne]; simp [evB]
theorem ev_not' (a : SE) : (evB ρ (.not a) = false) = (evB ρ a = true) := by
  rw [evB, den, ofB_bne]; simp [evB]
theorem ev_and (a b : SE) : (evB ρ (.and a b) = true) = (evB ρ a = true ∧ evB ρ b = true) := by
  rw [evB, den, ofB_bne]; simp [evB]
theorem ev_and' (a b : SE) : (evB ρ (.and a b) = false) = ¬(evB ρ a = true ∧ evB ρ b = true) := by
  rw [evB, den, ofB_bne]; simp [evB]
theorem ev_lit1 : (evB ρ (.lit 1) = true) = True := by simp [evB, den]
theorem ev_lit0 : (evB ρ (.lit 0) = true) = False := by simp [evB, den]
theorem ev_app (f : Nat) (a : SE) : (evB ρ (.app f a) = true) = (ρ.f f (dens ρ a) ≠ 0) := by
  rw [evB, den]; simp
theorem ev_app' (f : Nat) (a : SE) : (evB ρ (.app f a) = false) = (ρ.f f (dens ρ a) = 0) := by
  rw [evB, den]; simp

theorem says1 {m : List AObj} : saysTrue ρ (.bool (.lit 1)) m := by show evB ρ (.lit 1) = true; rw [ev_lit1]; trivial

theorem i64_wrap (n : Int) : IntKind.i64.wrap n = (n + 9223372036854775808) % 18446744073709551616 - 9223372036854775808 := by
  simp only [IntKind.wrap, IntKind.bits, IntKind.signed]
  simp
  omega
theorem u64_wrap (n : Int) : IntKind.u64.wrap n = n % 18446744073709551616 := by
  simp [IntKind.wrap, IntKind.bits, IntKind.signed]
theorem u8_wrap (n : Int) : IntKind.u8.wrap n = n % 256 := by
  simp [IntKind.wrap, IntKind.bits, IntKind.signed]
theorem u32_wrap (n : Int) : IntKind.u32.wrap n = n % 4294967296 := by
  simp [IntKind.wrap, IntKind.bits, IntKind.signed]

theorem ofInt_u64 {x : Int} (h0 : 0 ≤ x) (h1 : x < 18446744073709551616) : (BitVec.ofInt 64 x).toNat = x.toNat := by
  rw [BitVec.toNat_ofInt]
  congr 1
  exact Int.emod_eq_of_lt h0 h1
theorem or_add {x y : Int} (i : Nat) (hx : 0 ≤ x) (hx1 : x < 18446744073709551616) (hy : 0 ≤ y) (hy1 : y < 18446744073709551616) (h1 : x.toNat % 2 ^ i = 0) (h2 : y.toNat < 2 ^ i) : binI .or .u64 x y = IntKind.u64.wrap (x + y) := by
  show IntKind.u64.wrap (((BitVec.ofInt 64 x ||| BitVec.ofInt 64 y).toNat : Nat) : Int) = _
  rw [BitVec.toNat_or, ofInt_u64 hx hx1, ofInt_u64 hy hy1]
  have e : x.toNat = (x.toNat / 2 ^ i) <<< i := by
    rw [Nat.shiftLeft_eq]
    have := Nat.div_add_mod x.toNat (2 ^ i)
    rw [h1, Nat.mul_comm] at this
    omega
  have e2 : x.toNat ||| y.toNat = x.toNat + y.toNat := by
    rw [e, ← Nat.shiftLeft_add_eq_or_of_lt h2]
  rw [e2]
  congr 1
  omega
/-- One byte more of a word: by shift and or, by product and sum. -/
theorem word_step (acc : Int) {c : Int} (h0 : 0 ≤ c) (h1 : c ≤ 255) : binI .or .u64 (binI .shl .u64 acc 8) (IntKind.u64.wrap c) = binI .add .u64 (binI .mul .u64 256 acc) (IntKind.u64.wrap c) := by
  have e1 : binI .shl .u64 acc 8 = acc * 256 % 18446744073709551616 := by
    show IntKind.u64.wrap (acc * 2 ^ (min (8 : Int).toNat 64)) = _
    rw [u64_wrap]; rfl
  have e2 : binI .mul .u64 256 acc = acc * 256 % 18446744073709551616 := by
    show IntKind.u64.wrap (256 * acc) = _
    rw [u64_wrap, Int.mul_comm]
  have e3 : IntKind.u64.wrap c = c := by rw [u64_wrap]; omega
  rw [e1, e2, e3]
  rw [or_add 8 (by omega) (by omega) (by omega) (by omega) (by omega) (by omega)]
  rfl
theorem word_first {c : Int} (h0 : 0 ≤ c) (h1 : c ≤ 255) : binI .or .u64 0 (IntKind.u64.wrap c) = binI .add .u64 0 (IntKind.u64.wrap c) := by
  have e3 : IntKind.u64.wrap c = c := by rw [u64_wrap]; omega
  rw [e3, or_add 8 (by omega) (by omega) (by omega) (by omega) (by omega) (by omega)]
  rfl
theorem u8_parts : ∀ n : Fin 256, binI .shr .u8 (n.val : Int) 6 = binI .quo .u8 (n.val : Int) 64 ∧ binI .and .u8 (binI .shr .u8 (n.val : Int) 3) 7 = binI .rem .u8 (binI .quo .u8 (n.val : Int) 8) 8 ∧
    binI .and .u8 (n.val : Int) 7 = binI .rem .u8 (n.val : Int) 8 := by decide +kernel
theorem u8_part {c : Int} (h0 : 0 ≤ c) (h1 : c ≤ 255) : binI .shr .u8 c 6 = binI .quo .u8 c 64 ∧ binI .and .u8 (binI .shr .u8 c 3) 7 = binI .rem .u8 (binI .quo .u8 c 8) 8 ∧ binI .and .u8 c 7 = binI .rem .u8 c 8 := by
  have := u8_parts ⟨c.toNat, by omega⟩
  have e : ((⟨c.toNat, by omega⟩ : Fin 256).val : Int) = c := by show ((c.toNat : Nat) : Int) = c; omega
  rw [e] at this
  exact this
end Go.SX

/- Symbolic execution of the model's code, part 14: words laid as bytes and read again. Plain laws. -/
namespace Go.SX
theorem u64_inR {x : Int} (h : inR .u64 x = true) : 0 ≤ x ∧ x < 18446744073709551616 := by
  have := of_decide_eq_true h
  simp [IntKind.min, IntKind.max, IntKind.bits, IntKind.signed] at this
  omega
theorem u32_inR {x : Int} (h : inR .u32 x = true) : 0 ≤ x ∧ x < 4294967296 := by
  have := of_decide_eq_true h
  simp [IntKind.min, IntKind.max, IntKind.bits, IntKind.signed] at this
  omega
theorem i8_inR {x : Int} (h : inR .i8 x = true) : -128 ≤ x ∧ x ≤ 127 := by
  have := of_decide_eq_true h
  simp [IntKind.min, IntKind.max, IntKind.bits, IntKind.signed] at this
  omega
theorem i8_wrap (n : Int) : IntKind.i8.wrap n = (n + 128) % 256 - 128 := by
  simp only [IntKind.wrap, IntKind.bits, IntKind.signed]
  simp
  omega
theorem shr_u64 (x : Int) (k : Nat) (hk : k ≤ 64) : binI .shr .u64 x k = x / 2 ^ k := by
  show x.fdiv (2 ^ (min (k : Int).toNat 64)) = _
  rw [Int.toNat_natCast, Nat.min_eq_left hk, Int.fdiv_eq_ediv_of_nonneg _ (Int.le_of_lt (Int.pow_pos (by omega)))]
/-- One byte more. -/
theorem wstep (x m : Int) (hm : 0 < m) (h0 : 0 ≤ x) (h1 : x < 18446744073709551616) : binI .or .u64 (binI .shl .u64 (x / (m * 256)) 8) (IntKind.u64.wrap (IntKind.u8.wrap (x / m))) = x / m := by
  have h2 : 0 ≤ x / m := Int.ediv_nonneg h0 (by omega)
  have h3 : x / m ≤ x := Int.ediv_le_self _ h0
  have h4 : x / (m * 256) = x / m / 256 := (Int.ediv_ediv_of_nonneg (by omega)).symm
  rw [h4, u8_wrap, word_step _ (by omega) (by omega)]
  show IntKind.u64.wrap (IntKind.u64.wrap (256 * (x / m / 256)) + IntKind.u64.wrap (x / m % 256)) = x / m
  simp only [u64_wrap]
  omega
theorem wfirst (x m : Int) (hm : 0 < m) (h0 : 0 ≤ x) (h1 : x / m < 256) : binI .or .u64 0 (IntKind.u64.wrap (IntKind.u8.wrap (x / m))) = x / m := by
  have h2 : 0 ≤ x / m := Int.ediv_nonneg h0 (by omega)
  rw [u8_wrap, word_first (by omega) (by omega)]
  show IntKind.u64.wrap (0 + IntKind.u64.wrap (x / m % 256)) = x / m
  simp only [u64_wrap]
  omega
theorem word8 {x : Int} (h : 0 ≤ x ∧ x < 18446744073709551616) : binI .or .u64 (binI .shl .u64 (binI .or .u64 (binI .shl .u64 (binI .or .u64 (binI .shl .u64 (binI .or .u64 (binI .shl .u64 (binI .or .u64 (binI .shl .u64 (binI .or .u64 (binI .shl .u64 (binI .or .u64 (binI .shl .u64 (binI .or .u64 0
    (IntKind.u64.wrap (IntKind.u8.wrap (binI .shr .u64 x 56)))) 8) (IntKind.u64.wrap (IntKind.u8.wrap (binI .shr .u64 x 48)))) 8) (IntKind.u64.wrap (IntKind.u8.wrap (binI .shr .u64 x 40)))) 8) (IntKind.u64.wrap (IntKind.u8.wrap (binI .shr .u64 x 32)))) 8)
    (IntKind.u64.wrap (IntKind.u8.wrap (binI .shr .u64 x 24)))) 8) (IntKind.u64.wrap (IntKind.u8.wrap (binI .shr .u64 x 16)))) 8) (IntKind.u64.wrap (IntKind.u8.wrap (binI .shr .u64 x 8)))) 8) (IntKind.u64.wrap (IntKind.u8.wrap (binI .shr .u64 x 0))) = x := by
  obtain ⟨h0, h1⟩ := h
  have s := fun k hk => shr_u64 x k hk
  have s56 : binI .shr .u64 x 56 = x / 72057594037927936 := s 56 (by omega)
  have s48 : binI .shr .u64 x 48 = x / 281474976710656 := s 48 (by omega)
  have s40 : binI .shr .u64 x 40 = x / 1099511627776 := s 40 (by omega)
  have s32 : binI .shr .u64 x 32 = x / 4294967296 := s 32 (by omega)
  have s24 : binI .shr .u64 x 24 = x / 16777216 := s 24 (by omega)
  have s16 : binI .shr .u64 x 16 = x / 65536 := s 16 (by omega)
  have s8 : binI .shr .u64 x 8 = x / 256 := s 8 (by omega)
  have s0 : binI .shr .u64 x 0 = x / 1 := s 0 (by omega)
  rw [s56, s48, s40, s32, s24, s16, s8, s0, wfirst x 72057594037927936 (by omega) h0 (by omega)]
  have a := wstep x 281474976710656 (by omega) h0 h1
  have b := wstep x 1099511627776 (by omega) h0 h1
  have c := wstep x 4294967296 (by omega) h0 h1
  have d := wstep x 16777216 (by omega) h0 h1
  have e := wstep x 65536 (by omega) h0 h1
  have f := wstep x 256 (by omega) h0 h1
  have g := wstep x 1 (by omega) h0 h1
  simp only [Int.reduceMul] at a b c d e f g
  rw [a, b, c, d, e, f, g]
  omega
theorem word4 {x : Int} (h : 0 ≤ x ∧ x < 4294967296) : IntKind.u32.wrap (binI .or .u64 (binI .shl .u64 (binI .or .u64 (binI .shl .u64 (binI .or .u64 (binI .shl .u64 (binI .or .u64 0
    (IntKind.u64.wrap (IntKind.u8.wrap (binI .shr .u64 (IntKind.u64.wrap x) 24)))) 8) (IntKind.u64.wrap (IntKind.u8.wrap (binI .shr .u64 (IntKind.u64.wrap x) 16)))) 8) (IntKind.u64.wrap (IntKind.u8.wrap (binI .shr .u64 (IntKind.u64.wrap x) 8)))) 8) (IntKind.u64.wrap (IntKind.u8.wrap (binI .shr .u64 (IntKind.u64.wrap x) 0)))) = x := by
  obtain ⟨h0, h1⟩ := h
  have hw : IntKind.u64.wrap x = x := by rw [u64_wrap]; omega
  have s := fun k hk => shr_u64 x k hk
  have s24 : binI .shr .u64 x 24 = x / 16777216 := s 24 (by omega)
  have s16 : binI .shr .u64 x 16 = x / 65536 := s 16 (by omega)
  have s8 : binI .shr .u64 x 8 = x / 256 := s 8 (by omega)
  have s0 : binI .shr .u64 x 0 = x / 1 := s 0 (by omega)
  rw [hw, s24, s16, s8, s0, wfirst x 16777216 (by omega) h0 (by omega)]
  have e := wstep x 65536 (by omega) h0 (by omega)
  have f := wstep x 256 (by omega) h0 (by omega)
  have g := wstep x 1 (by omega) h0 (by omega)
  simp only [Int.reduceMul] at e f g
  rw [e, f, g, u32_wrap]
  omega
theorem byte1 {x : Int} (h : -128 ≤ x ∧ x ≤ 127) : IntKind.i8.wrap (IntKind.u8.wrap (binI .shr .u64 (IntKind.u64.wrap (IntKind.u8.wrap x)) 0)) = x := by
  have s0 : binI .shr .u64 (IntKind.u64.wrap (IntKind.u8.wrap x)) 0 = IntKind.u64.wrap (IntKind.u8.wrap x) / 1 := shr_u64 _ 0 (by omega)
  rw [s0]
  simp only [u8_wrap, u64_wrap, i8_wrap]
  omega
end Go.SX

/- Symbolic execution of the model's code, part 15: words for contracts of functions of whole numbers. -/
namespace Go.SX
variable {bs : List Ent} {ρ : Env}
theorem dvl_int {k : IntKind} {e : SE} {l : List AV} {vs : List Value} (h : dvl bs ρ (.int k e :: l) = some vs) : inR k (den ρ e) = true ∧ ∃ us, vs = .int k (den ρ e) :: us ∧ dvl bs ρ l = some us := by
  simp only [dvl, Option.bind_eq_some_iff, Option.map_eq_some_iff] at h
  obtain ⟨x, hx, xs, hxs, rfl⟩ := h
  obtain ⟨rfl, hr⟩ := dv_int hx
  exact ⟨hr, xs, rfl, hxs⟩
theorem dvl_end {vs : List Value} (h : dvl bs ρ [] = some vs) : vs = [] := by cases h; rfl
theorem i64_in {x : Int} (h : inR .i64 x = true) : -9223372036854775808 ≤ x ∧ x ≤ 9223372036854775807 := by
  have := of_decide_eq_true h
  simp [IntKind.min, IntKind.max, IntKind.bits, IntKind.signed] at this
  omega
theorem u64_in {x : Int} (h : inR .u64 x = true) : 0 ≤ x ∧ x ≤ 18446744073709551615 := by
  have := of_decide_eq_true h
  simp [IntKind.min, IntKind.max, IntKind.bits, IntKind.signed] at this
  omega
theorem u32_in {x : Int} (h : inR .u32 x = true) : 0 ≤ x ∧ x ≤ 4294967295 := by
  have := of_decide_eq_true h
  simp [IntKind.min, IntKind.max, IntKind.bits, IntKind.signed] at this
  omega
theorem u16_in {x : Int} (h : inR .u16 x = true) : 0 ≤ x ∧ x ≤ 65535 := by
  have := of_decide_eq_true h
  simp [IntKind.min, IntKind.max, IntKind.bits, IntKind.signed] at this
  omega
theorem i32_in {x : Int} (h : inR .i32 x = true) : -2147483648 ≤ x ∧ x ≤ 2147483647 := by
  have := of_decide_eq_true h
  simp [IntKind.min, IntKind.max, IntKind.bits, IntKind.signed] at this
  omega
theorem in_i64 {x : Int} (h : -9223372036854775808 ≤ x ∧ x ≤ 9223372036854775807) : inR .i64 x = true := by
  unfold inR
  simp [IntKind.min, IntKind.max, IntKind.bits, IntKind.signed]
  omega
theorem in_u64 {x : Int} (h : 0 ≤ x ∧ x ≤ 18446744073709551615) : inR .u64 x = true := by
  unfold inR
  simp [IntKind.min, IntKind.max, IntKind.bits, IntKind.signed]
  omega
theorem wrap_i64 {x : Int} (h0 : -9223372036854775808 ≤ x) (h1 : x ≤ 9223372036854775807) : IntKind.i64.wrap x = x := by rw [i64_wrap]; omega
theorem add_i64 {x y : Int} (h0 : -9223372036854775808 ≤ x + y) (h1 : x + y ≤ 9223372036854775807) : binI .add .i64 x y = x + y := by
  show IntKind.i64.wrap (x + y) = _
  exact wrap_i64 h0 h1
theorem sub_i64 {x y : Int} (h0 : -9223372036854775808 ≤ x - y) (h1 : x - y ≤ 9223372036854775807) : binI .sub .i64 x y = x - y := by
  show IntKind.i64.wrap (x - y) = _
  exact wrap_i64 h0 h1
theorem mul_i64 {x y : Int} (h0 : -9223372036854775808 ≤ x * y) (h1 : x * y ≤ 9223372036854775807) : binI .mul .i64 x y = x * y := by
  show IntKind.i64.wrap (x * y) = _
  exact wrap_i64 h0 h1
theorem rem_i64 (x y : Int) : binI .rem .i64 x y = x.tmod y := rfl
theorem dv_pair {k k' : IntKind} {e e' : SE} (h : inR k (den ρ e) = true) (h' : inR k' (den ρ e') = true) : dv bs ρ (.tuple (ofList [.int k e, .int k' e'])) = some (.tuple #[.int k (den ρ e), .int k' (den ρ e')]) := by
  simp only [ofList, dv, dvs, h, h', if_true, Option.bind_some, Option.map_some]
theorem dv_triple {k k' k'' : IntKind} {e e' e'' : SE} (h : inR k (den ρ e) = true) (h' : inR k' (den ρ e') = true) (h'' : inR k'' (den ρ e'') = true) : dv bs ρ (.tuple (ofList [.int k e, .int k' e', .int k'' e''])) = some (.tuple #[.int k (den ρ e), .int k' (den ρ e'), .int k'' (den ρ e'')]) := by
  simp only [ofList, dv, dvs, h, h', h'', if_true, Option.bind_some, Option.map_some]
end Go.SX
