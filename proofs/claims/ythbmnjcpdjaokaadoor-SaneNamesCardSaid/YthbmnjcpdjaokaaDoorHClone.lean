/- What slices.Clone comes to on the reasons' names, wherever the global's block lies in the caller's memory. -/
import Derived.Test.YthbmnjcpdjaokaaDoorSX3
import Derived.Test.YthbmnjcpdjaokaaDoorProg
import Derived.KernelRfl
namespace Go.Proofs.YthbmnjcpdjaokaaDoor.HClone
open Go Go.SX Go.Proofs.YthbmnjcpdjaokaaDoor
set_option maxRecDepth 100000
set_option linter.unusedVariables false
set_option linter.unusedSimpArgs false
def names : List AV := [.str ⟨#[116, 97, 107, 101, 110]⟩, .str ⟨#[115, 104, 111, 114, 116]⟩, .str ⟨#[117, 110, 107, 110, 111, 119, 110]⟩, .str ⟨#[114, 101, 116, 105, 114, 101, 100]⟩, .str ⟨#[105, 100, 108, 101]⟩, .str ⟨#[118, 101, 114, 115, 105, 111, 110]⟩, .str ⟨#[109, 111, 100, 101]⟩, .str ⟨#[111, 114, 105, 103, 105, 110]⟩, .str ⟨#[107, 105, 115, 115]⟩, .str ⟨#[108, 101, 97, 112]⟩, .str ⟨#[115, 116, 114, 97, 116, 117, 109]⟩, .str ⟨#[122, 101, 114, 111]⟩, .str ⟨#[115, 108, 111, 119]⟩]
def vals : List Value := [.string ⟨#[116, 97, 107, 101, 110]⟩, .string ⟨#[115, 104, 111, 114, 116]⟩, .string ⟨#[117, 110, 107, 110, 111, 119, 110]⟩, .string ⟨#[114, 101, 116, 105, 114, 101, 100]⟩, .string ⟨#[105, 100, 108, 101]⟩, .string ⟨#[118, 101, 114, 115, 105, 111, 110]⟩, .string ⟨#[109, 111, 100, 101]⟩, .string ⟨#[111, 114, 105, 103, 105, 110]⟩, .string ⟨#[107, 105, 115, 115]⟩, .string ⟨#[108, 101, 97, 112]⟩, .string ⟨#[115, 116, 114, 97, 116, 117, 109]⟩, .string ⟨#[122, 101, 114, 111]⟩, .string ⟨#[115, 108, 111, 119]⟩]
def args : List AV := [.row 0 0 (.lit 13) 0]
def mem (T : TypeId) : List AObj := [.cells names T false none]
def new : AObj := .cells names 9 true (some 1)
def cfg : Cfg := { ok := [3, 4, 5, 6, 7, 8, 9, 10, 11, 12, 13, 14, 15, 16, 17, 18, 19, 20, 21, 22, 23, 24, 25, 26, 48], sums := sumsOf [], loops := [] }
def tree (T : TypeId) : Tree := .leaf (.row 1 0 (.lit 13) 0) [.cells names T false none, new]
def pat (T : TypeId) : Pat := ⟨args, mem T, needs [] (tree T).toOut⟩
set_option maxHeartbeats 40000000 in
theorem tree_eq (T : TypeId) : callS Tryd.prog cfg 100000 13 args (mem T) [] = tree T := by kernel_rfl
theorem cfg_ok (F G : Nat → List Int → Int) (hG : ∀ j, 100 ≤ j → j < 200 → G j = F j) : CfgOk Tryd.prog cfg G (fun _ _ => True) :=
  ⟨by kernel_rfl, okB_spec (by kernel_rfl), fun f a m out h S w0 bs ρ w vs v mem' _ hρ hvs hm hp => by cases h⟩
theorem ok (T : TypeId) (F : Nat → List Int → Int) : SumOk Tryd.prog F 13 (pat T) := sum_run (cfg_ok F) (tree_eq T) rfl

/-- The global's block holds the names, and stays. -/
def N (S : Nat → Prop) (w0 : World) : Prop := S 0 ∧ ∃ T, w0.heap[0]? = some (.cells vals.toArray T (0, 0))
theorem dvl_names (bs : List Ent) (ρ : Env) : dvl bs ρ names = some vals := rfl
theorem sound {S : Nat → Prop} {w0 w : World} {bs : List Ent} {ρ : Env} {vs : List Value} {mem0 : List AObj} (hN : N S w0)
    (hvs : dvl bs ρ [.xslice (.lit 0) (.lit 0) (.lit 13) (.lit 13)] = some vs) (hm : RelM bs ρ S w0 mem0 w) :
    Go.SX.Comes Tryd.prog S w0 bs ρ 13 vs w (.row mem0.length 0 (.lit 13) 0) (mem0 ++ [new]) := by
  obtain ⟨hS0, T, h0⟩ := hN
  have hw : w.heap[0]? = some (.cells vals.toArray T (0, 0)) := (hm.keep.block 0 hS0).trans h0
  have hlt0 : 0 < w.heap.size := by
    by_cases h : 0 < w.heap.size
    · exact h
    · rw [Array.getElem?_eq_none (by omega)] at hw; cases hw
  let e0 : Ent := ⟨0, 13, 0, none, 0⟩
  have hM : RelM [e0] ρ (· < w.heap.size) w (mem T) w := by
    refine RelM.foreign rfl (fun i o ho => ?_) rfl
    match i, ho with
    | 0, ho =>
      cases ho
      exact ⟨e0, rfl, vals, [], dvl_names _ _, by rw [List.append_nil]; exact hw, (fun s hs => by cases hs), rfl⟩
  have hvs' : dvl [e0] ρ (pat T).args = some vs := by rw [← hvs]; rfl
  refine (ok T ρ.f (· < w.heap.size) w [e0] ρ w vs (.row 1 0 (.lit 13) 0) [.cells names T false none, new] (fun _ _ _ => rfl) hvs' hM rfl).mono ?_
  rintro e w' ⟨ex, z, rfl, hz, hM'⟩
  have hl : ex.length = 1 := by have := hM'.len; simpa using this
  match ex, hl with
  | [en], _ =>
  have hlt : ∀ (p : Nat) (o : AObj) (b : Ent), mem0[p]? = some o → Occ ρ o → bs[p]? = some b → b.blk < w.heap.size := fun p o b h1 h2 h3 => by
    obtain ⟨b', h4, h5⟩ := hm.rel p o h1
    rw [h3] at h4; cases h4
    exact h5.lt h2
  have hno : ¬ en.blk < w.heap.size := hM'.own 1 new en rfl rfl rfl
  refine ⟨[en], z, rfl, ?_, ?_⟩
  · obtain ⟨b, hb, hc, rfl⟩ := dv_row hz
    cases hb
    exact dv_row_mk (by rw [← hm.len, List.getElem?_append_right (Nat.le_refl _)]; simp) hc
  have spl : ∀ (p : Nat) (o : AObj) (b : Ent), (mem0 ++ [new])[p]? = some o → (bs ++ [en])[p]? = some b → (mem0[p]? = some o ∧ bs[p]? = some b ∧ p < mem0.length) ∨ (p = mem0.length ∧ o = new ∧ b = en) := fun p o b ho hb => by
    by_cases hp : p < mem0.length
    · rw [List.getElem?_append_left hp] at ho
      rw [List.getElem?_append_left (by rw [hm.len]; exact hp)] at hb
      exact .inl ⟨ho, hb, hp⟩
    · rw [List.getElem?_append_right (by omega)] at ho
      rw [List.getElem?_append_right (by rw [hm.len]; omega), hm.len] at hb
      match hq : p - mem0.length, ho, hb with
      | 0, ho, hb => cases ho; cases hb; exact .inr ⟨by omega, rfl, rfl⟩
  refine ⟨by simp [hm.len], fun p o ho => ?_, fun p o b ho hmi hb hS => ?_, fun p q o o' b b' hpq ho ho' hmi hoc hb hb' => ?_, ?_⟩
  · by_cases hp : p < mem0.length
    · rw [List.getElem?_append_left hp] at ho
      obtain ⟨b, hb, hr⟩ := hm.rel p o ho
      exact ⟨b, by rw [List.getElem?_append_left (by rw [hm.len]; exact hp)]; exact hb, (hr.same fun hoc => hM'.keep.block _ (hlt p o b ho hoc hb)).mono [en]⟩
    · have hb : (bs ++ [en])[p]? = some en := by
        rw [List.getElem?_append_right (by omega)] at ho
        rw [List.getElem?_append_right (by rw [hm.len]; omega), hm.len]
        match hq : p - mem0.length, ho with
        | 0, _ => rfl
      obtain ⟨h1, _⟩ | ⟨h1, rfl, _⟩ := spl p o en ho hb
      · exact absurd (List.getElem?_eq_some_iff.1 h1).1 hp
      · refine ⟨en, hb, ?_⟩
        obtain ⟨b, hb', hr⟩ := hM'.rel 1 new rfl
        cases hb'
        exact hr
  · rcases spl p o b ho hb with ⟨h1, h2, _⟩ | ⟨_, rfl, rfl⟩
    · exact hm.own p o b h1 hmi h2 hS
    · have := hm.keep.old _ hS
      have := hm.keep.size
      omega
  · rcases spl p o b ho hb with ⟨h1, h2, _⟩ | ⟨h1, rfl, rfl⟩ <;> rcases spl q o' b' ho' hb' with ⟨h1', h2', _⟩ | ⟨h1', rfl, rfl⟩
    · exact hm.apart p q o o' b b' hpq h1 h1' hmi hoc h2 h2'
    · have := hlt p o b h1 (Occ.mine hmi) h2
      omega
    · have := hlt q o' b' h1' hoc h2'
      omega
    · omega
  · have hk := hM'.keep
    exact ⟨hk.os.trans hm.keep.os, hk.tape.trans hm.keep.tape, hk.output.trans hm.keep.output, Nat.le_trans hm.keep.size hk.size, fun x hx => (hk.block x (by have := hm.keep.old x hx; have := hm.keep.size; show x < _; omega)).trans (hm.keep.block x hx), hm.keep.old⟩
end Go.Proofs.YthbmnjcpdjaokaaDoor.HClone
