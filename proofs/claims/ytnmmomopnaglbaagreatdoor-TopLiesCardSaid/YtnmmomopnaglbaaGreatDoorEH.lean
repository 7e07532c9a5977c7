/- What is known of the world besides, and the contracts by hand: strings.Fields, internal/stringslite.Index, strconv.Atoi at texts; the reasons' names. No conditions. -/
import Derived.Test.YtnmmomopnaglbaaGreatDoorEB
import Derived.Test.YtnmmomopnaglbaaGreatDoorSh
import Derived.Lib.LaidTab
import Derived.Lib.UnsafeStr
namespace Go.Proofs.YtnmmomopnaglbaaGreatDoor.EH
open Go Go.SX Go.Proofs.YtnmmomopnaglbaaGreatDoor
set_option maxRecDepth 100000
set_option linter.unusedVariables false
set_option linter.unusedSimpArgs false
def F : Nat → List Int → Int := fun _ _ => 0
def names : List AV := [(.str ⟨#[116, 97, 107, 101, 110]⟩), (.str ⟨#[115, 104, 111, 114, 116]⟩), (.str ⟨#[117, 110, 107, 110, 111, 119, 110]⟩), (.str ⟨#[114, 101, 116, 105, 114, 101, 100]⟩), (.str ⟨#[105, 100, 108, 101]⟩), (.str ⟨#[118, 101, 114, 115, 105, 111, 110]⟩), (.str ⟨#[109, 111, 100, 101]⟩), (.str ⟨#[111, 114, 105, 103, 105, 110]⟩), (.str ⟨#[107, 105, 115, 115]⟩), (.str ⟨#[108, 101, 97, 112]⟩), (.str ⟨#[115, 116, 114, 97, 116, 117, 109]⟩), (.str ⟨#[122, 101, 114, 111]⟩), (.str ⟨#[115, 108, 111, 119]⟩)]
def vals : List Value := [.string ⟨#[116, 97, 107, 101, 110]⟩, .string ⟨#[115, 104, 111, 114, 116]⟩, .string ⟨#[117, 110, 107, 110, 111, 119, 110]⟩, .string ⟨#[114, 101, 116, 105, 114, 101, 100]⟩, .string ⟨#[105, 100, 108, 101]⟩, .string ⟨#[118, 101, 114, 115, 105, 111, 110]⟩, .string ⟨#[109, 111, 100, 101]⟩, .string ⟨#[111, 114, 105, 103, 105, 110]⟩, .string ⟨#[107, 105, 115, 115]⟩, .string ⟨#[108, 101, 97, 112]⟩, .string ⟨#[115, 116, 114, 97, 116, 117, 109]⟩, .string ⟨#[122, 101, 114, 111]⟩, .string ⟨#[115, 108, 111, 119]⟩]
def space : List Value := Lib.asciiSpaceTab.map fun z => Value.int .u8 z
/-- The two tables hold their values, and stay. -/
def N (S : Nat → Prop) (w0 : World) : Prop := S 0 ∧ S 1 ∧ (∃ T, w0.heap[0]? = some (.cells vals.toArray T (0, 0))) ∧ ∃ T, w0.heap[1]? = some (.cells space.toArray T (0, 0))
theorem stays : Stays N := by
  rintro S S' w0 w ⟨h0, h1, ⟨T, hT⟩, ⟨T', hT'⟩⟩ hS hw
  exact ⟨hS 0 h0, hS 1 h1, ⟨T, (hw 0 h0).trans hT⟩, ⟨T', (hw 1 h1).trans hT'⟩⟩
theorem mixed : Tryz.prog.follows .mixedOrders = true := by kernel_rfl
theorem okl_ok : okB Tryz.prog EB.okl = true := by kernel_rfl
theorem cfg_ok {l : List (FuncId × Pat)} (hl : ∀ p ∈ l, SumOkN Tryz.prog F N p.1 p.2) (G : Nat → List Int → Int) (hG : ∀ j, 100 ≤ j → j < 200 → G j = F j) : CfgOk Tryz.prog (EB.cfg l) G N := cfgN_ok mixed okl_ok stays hl G hG
theorem nil_ok : ∀ p ∈ ([] : List (FuncId × Pat)), SumOkN Tryz.prog F N p.1 p.2 := fun p h => by cases h
theorem cons_ok {f : FuncId} {q : Pat} {l : List (FuncId × Pat)} (h : SumOkN Tryz.prog F N f q) (hl : ∀ p ∈ l, SumOkN Tryz.prog F N p.1 p.2) : ∀ p ∈ (f, q) :: l, SumOkN Tryz.prog F N p.1 p.2 := fun p hp => by
  rcases List.mem_cons.1 hp with rfl | hp
  · exact h
  · exact hl p hp

theorem index (s : ByteArray) (c : UInt8) (n : Int) (h : Lib.indexByte s.data.toList c = n) (hn : inR .i64 n = true) : SumOkN Tryz.prog F N 173 ⟨[.str s, .str ⟨#[c]⟩], [], .done (.int .i64 (.lit n)) []⟩ := by
  intro S w0 bs ρ w vs v mem' hN hF hvs hm hp
  cases hp
  cases hvs
  refine comes_of_below (z := .int .i64 n) hm (dv_int_mk (e := .lit n) hn) ?_
  refine (Any.stringslite_Index_one Tryz.lays219 s c w).mono ?_
  rintro e w' ⟨rfl, rfl⟩
  exact ⟨by rw [h], RowKit.Below.refl _ _⟩
theorem atoi (s : ByteArray) (n : Int) (hl : s.size ≤ 18) (h : Lib.atoi s.data.toList = some n) (hn : inR .i64 n = true) : SumOkN Tryz.prog F N 147 ⟨[.str s], [], .done (.tuple (.cons (.int .i64 (.lit n)) (.cons .nilIface .nil))) []⟩ := by
  intro S w0 bs ρ w vs v mem' hN hF hvs hm hp
  cases hp
  cases hvs
  have hz : dv bs ρ (.tuple (.cons (.int .i64 (.lit n)) (.cons .nilIface .nil))) = some (.tuple #[.int .i64 n, .nilIface]) := by
    have h1 : dv bs ρ (.int .i64 (.lit n)) = some (.int .i64 n) := dv_int_mk (e := .lit n) hn
    show (dvs bs ρ (.cons (.int .i64 (.lit n)) (.cons .nilIface .nil))).map _ = _
    simp only [dvs]
    rw [h1]
    rfl
  refine comes_of_below hm hz ?_
  refine (Any.strconv_Atoi Tryz.lays172 s n hl h w).mono ?_
  rintro e w' ⟨rfl, t, rfl⟩
  exact ⟨rfl, Lib.below_freeze (((RowKit.Below.refl _ w).drew).alloc (Nat.le_refl _) _) (Nat.le_refl _) _⟩
theorem dvl_strs (bs : List Ent) (ρ : Env) : ∀ l : List (List UInt8), dvl bs ρ (l.map fun x => AV.str ⟨x.toArray⟩) = some (l.map fun x => Value.string ⟨x.toArray⟩)
  | [] => rfl
  | a :: r => by simp only [List.map_cons, dvl, dv, dvl_strs bs ρ r, Option.bind_some, Option.map_some]
theorem fields (s : ByteArray) (l : List (List UInt8)) (hs : s.size < 4294967281) (ha : s.data.toList.all (fun b => b.toNat < 128) = true) (h : Lib.fields s.data.toList = l) (hlen : l.length ≤ maxLen) : SumOkN Tryz.prog F N 103 ⟨[.str s], [], .done (.row 0 0 (.lit l.length) 0) [.cells (l.map fun x => .str ⟨x.toArray⟩) 9 true (some 1)]⟩ := by
  intro S w0 bs ρ w vs v mem' hN hF hvs hm hp
  cases hp
  cases hvs
  have hb : bs = [] := List.eq_nil_of_length_eq_zero hm.len
  subst hb
  obtain ⟨_, hS1, _, ⟨T, hT⟩⟩ := hN
  have hw : w.heap[1]? = some (.cells space.toArray T (0, 0)) := (hm.keep.block 1 hS1).trans hT
  have htab : Lib.TabIs Tryz.prog w "strings.asciiSpace" .u8 Lib.asciiSpaceTab := by
    have hg : Tryz.prog.globalNamed "strings.asciiSpace" = some 1 := by kernel_rfl
    simp only [Lib.TabIs, World.var?, hg, Option.bind_some, hw]
    rfl
  refine (Any.strings_Fields Tryz.lays157 (by kernel_rfl) (by kernel_rfl) s w hs (fun j b hb => by
    have := List.all_eq_true.1 ha b (List.mem_of_getElem? hb)
    simpa using this) htab).mono ?_
  rintro e w' ⟨rfl, rfl⟩
  rw [h]
  let en : Ent := ⟨w.heap.size, l.length, 0, none, 0⟩
  refine ⟨[en], .slice (some ⟨w.heap.size, 0, none⟩) l.length l.length, rfl, ?_, ?_⟩
  · have := dv_row_mk (bs := [en]) (ρ := ρ) (id := 0) (off := 0) (skip := 0) (len := .lit l.length) (b := en) rfl (by show (((l.length : Int)).toNat) + 0 ≤ l.length; omega)
    rw [List.nil_append, this]
    show some (Value.slice (some ⟨w.heap.size, 0 + 0, none⟩) ((l.length : Int)).toNat (l.length - 0)) = _
    simp
  · have hd := fun bs => dvl_strs bs ρ l
    refine hm.push (mem' := []) en _ rfl (fun i o ho => by simp at ho) (fun i o e0 ho => by simp at ho) ⟨l.map fun x => Value.string ⟨x.toArray⟩, [], hd _, ⟨[], ?_, rfl⟩, ?_⟩ hm.fresh (hm.keep.alloc (w' := w) _)
    · rw [List.nil_append, List.append_nil]
      exact heap_alloc_new w _
    · intro s hs
      cases hs
      simp only [List.append_nil, List.length_map]
      exact ⟨by show l.length = l.length * 1; omega, hlen⟩

/-! ### the reasons' names -/
def args : List AV := [.row 0 0 (.lit 13) 0]
def mem (T : TypeId) : List AObj := [.cells names T false none]
def new : AObj := .cells names 9 true (some 1)
def ccfg : Cfg := { ok := EB.okl, sums := sumsOf [], loops := [] }
def tree (T : TypeId) : Tree := .leaf (.row 1 0 (.lit 13) 0) [.cells names T false none, new]
def pat (T : TypeId) : Pat := ⟨args, mem T, needs [] (tree T).toOut⟩
set_option maxHeartbeats 40000000 in
theorem tree_eq (T : TypeId) : callS Tryz.prog ccfg 100000 126 args (mem T) [] = tree T := by kernel_rfl
theorem ccfg_ok (F G : Nat → List Int → Int) (hG : ∀ j, 100 ≤ j → j < 200 → G j = F j) : CfgOk Tryz.prog ccfg G (fun _ _ => True) :=
  ⟨by kernel_rfl, okB_spec (by kernel_rfl), fun f a m out h S w0 bs ρ w vs v mem' _ hρ hvs hm hp => (by cases h), fun c st x st' h => (by cases h)⟩
theorem ok (T : TypeId) (F : Nat → List Int → Int) : SumOk Tryz.prog F 126 (pat T) := sum_run (ccfg_ok F) (tree_eq T) rfl

theorem dvl_names (bs : List Ent) (ρ : Env) : dvl bs ρ names = some vals := rfl
theorem sound {S : Nat → Prop} {w0 w : World} {bs : List Ent} {ρ : Env} {vs : List Value} {mem0 : List AObj} (hN : N S w0)
    (hvs : dvl bs ρ [.xslice (.lit 0) (.lit 0) (.lit 13) (.lit 13)] = some vs) (hm : RelM bs ρ S w0 mem0 w) :
    Go.SX.Comes Tryz.prog S w0 bs ρ 126 vs w (.row mem0.length 0 (.lit 13) 0) (mem0 ++ [new]) := by
  obtain ⟨hS0, _, ⟨T, h0⟩, _⟩ := hN
  have hw : w.heap[0]? = some (.cells vals.toArray T (0, 0)) := (hm.keep.block 0 hS0).trans h0
  have hlt0 : 0 < w.heap.size := by
    by_cases h : 0 < w.heap.size
    · exact h
    · rw [Array.getElem?_eq_none (by omega)] at hw; cases hw
  let e0 : Ent := ⟨0, 13, 0, none, 0⟩
  have hM : RelM [e0] ρ (· < w.heap.size) w (mem T) w := by
    refine RelM.foreign rfl (fun i o ho => ?_) rfl
    match i, ho with
    | 0, ho =>
      cases ho
      exact ⟨e0, rfl, vals, [], dvl_names _ _, ⟨[], by rw [List.nil_append, List.append_nil]; exact hw, rfl⟩, fun s hs => by cases hs⟩
  have hvs' : dvl [e0] ρ (pat T).args = some vs := by rw [← hvs]; rfl
  refine (ok T ρ.f (· < w.heap.size) w [e0] ρ w vs (.row 1 0 (.lit 13) 0) [.cells names T false none, new] (fun _ _ _ => rfl) hvs' hM rfl).mono ?_
  rintro e w' ⟨ex, z, rfl, hz, hM'⟩
  have hl : ex.length = 1 := by have := hM'.len; simpa using this
  match ex, hl with
  | [en], _ =>
  have hlt : ∀ (p : Nat) (o : AObj) (b : Ent), mem0[p]? = some o → Occ ρ o → bs[p]? = some b → b.blk < w.heap.size := fun p o b h1 h2 h3 => by
    obtain ⟨b', h4, h5⟩ := hm.rel p o h1
    rw [h3] at h4; cases h4
    exact h5.lt h2
  have hno : ¬ en.blk < w.heap.size := hM'.own 1 new en rfl rfl rfl
  refine ⟨[en], z, rfl, ?_, ?_⟩
  · obtain ⟨b, hb, hc, rfl⟩ := dv_row hz
    cases hb
    exact dv_row_mk (by rw [← hm.len, List.getElem?_append_right (Nat.le_refl _)]; simp) hc
  have spl : ∀ (p : Nat) (o : AObj) (b : Ent), (mem0 ++ [new])[p]? = some o → (bs ++ [en])[p]? = some b → (mem0[p]? = some o ∧ bs[p]? = some b ∧ p < mem0.length) ∨ (p = mem0.length ∧ o = new ∧ b = en) := fun p o b ho hb => by
    by_cases hp : p < mem0.length
    · rw [List.getElem?_append_left hp] at ho
      rw [List.getElem?_append_left (by rw [hm.len]; exact hp)] at hb
      exact .inl ⟨ho, hb, hp⟩
    · rw [List.getElem?_append_right (by omega)] at ho
      rw [List.getElem?_append_right (by rw [hm.len]; omega), hm.len] at hb
      match hq : p - mem0.length, ho, hb with
      | 0, ho, hb => cases ho; cases hb; exact .inr ⟨by omega, rfl, rfl⟩
  refine ⟨by simp [hm.len], fun p o ho => ?_, fun p o b ho hmi hb hS => ?_, fun p q o o' b b' hpq ho ho' hmi hoc hb hb' => ?_, ?_⟩
  · by_cases hp : p < mem0.length
    · rw [List.getElem?_append_left hp] at ho
      obtain ⟨b, hb, hr⟩ := hm.rel p o ho
      exact ⟨b, by rw [List.getElem?_append_left (by rw [hm.len]; exact hp)]; exact hb, (hr.same fun hoc => hM'.keep.block _ (hlt p o b ho hoc hb)).mono [en]⟩
    · have hb : (bs ++ [en])[p]? = some en := by
        rw [List.getElem?_append_right (by omega)] at ho
        rw [List.getElem?_append_right (by rw [hm.len]; omega), hm.len]
        match hq : p - mem0.length, ho with
        | 0, _ => rfl
      obtain ⟨h1, _⟩ | ⟨h1, rfl, _⟩ := spl p o en ho hb
      · exact absurd (List.getElem?_eq_some_iff.1 h1).1 hp
      · refine ⟨en, hb, ?_⟩
        obtain ⟨b, hb', hr⟩ := hM'.rel 1 new rfl
        cases hb'
        exact hr
  · rcases spl p o b ho hb with ⟨h1, h2, _⟩ | ⟨_, rfl, rfl⟩
    · exact hm.own p o b h1 hmi h2 hS
    · have := hm.keep.old _ hS
      have := hm.keep.size
      omega
  · rcases spl p o b ho hb with ⟨h1, h2, _⟩ | ⟨h1, rfl, rfl⟩ <;> rcases spl q o' b' ho' hb' with ⟨h1', h2', _⟩ | ⟨h1', rfl, rfl⟩
    · exact hm.apart p q o o' b b' hpq h1 h1' hmi hoc h2 h2'
    · have := hlt p o b h1 (Occ.mine hmi) h2
      omega
    · have := hlt q o' b' h1' hoc h2'
      omega
    · omega
  · have hk := hM'.keep
    exact ⟨hk.os.trans hm.keep.os, hk.tape.trans hm.keep.tape, hk.output.trans hm.keep.output, Nat.le_trans hm.keep.size hk.size, fun x hx => (hk.block x (by have := hm.keep.old x hx; have := hm.keep.size; show x < _; omega)).trans (hm.keep.block x hx), hm.keep.old⟩

def isNames : List AV → Bool
  | [.xslice (.lit 0) (.lit 0) (.lit 13) (.lit 13)] => true
  | _ => false
theorem isNames_spec {l : List AV} (h : isNames l = true) : l = [.xslice (.lit 0) (.lit 0) (.lit 13) (.lit 13)] := by
  unfold isNames at h
  split at h
  · rfl
  · cases h
def sumsC (f : FuncId) (args : List AV) (m : List AObj) : Option Out := if Nat.beq f 126 && isNames args then some (.done (.row m.length 0 (.lit 13) 0) (m ++ [new])) else none
def cfgC : Cfg := { ok := EB.okl, sums := sumsC, loops := [], tbl := 2, wr := EB.wr }
theorem cfgC_ok (G : Nat → List Int → Int) (hG : ∀ j, 100 ≤ j → j < 200 → G j = F j) : CfgOk Tryz.prog cfgC G N :=
  { mixed := mixed
    names := okB_spec okl_ok
    sums := fun f args mem0 out h S w0 bs ρ w vs v mem' hN hρ hvs hm hp => by
      have h : sumsC f args mem0 = some out := h
      unfold sumsC at h
      split at h
      · rename_i hc
        simp only [Bool.and_eq_true] at hc
        cases h
        cases hp
        rw [Nat.eq_of_beq_eq_true hc.1]
        rw [isNames_spec hc.2] at hvs
        exact sound hN hvs hm
      · cases h
    holes := fun c st x st' h => by cases h }
set_option maxHeartbeats 40000000 in
theorem names_one : (callS Tryz.prog cfgC 100000 95 [] [] []).one = some (.row 0 0 (.lit 13) 0, [new]) := by kernel_rfl
theorem names_ok : SumOkN Tryz.prog F N 95 ⟨[], [], .done (.row 0 0 (.lit 13) 0) [new]⟩ := sumN_one cfgC_ok names_one
end Go.Proofs.YtnmmomopnaglbaaGreatDoor.EH
