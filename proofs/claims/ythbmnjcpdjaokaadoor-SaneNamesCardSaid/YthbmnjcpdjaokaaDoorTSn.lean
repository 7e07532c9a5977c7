/- The law SaneNames' setting: contracts, arguments; what is known of the remainder. No conditions. -/
import Derived.Test.YthbmnjcpdjaokaaDoorSX3
import Derived.Test.YthbmnjcpdjaokaaDoorProg
import Derived.KernelRfl
import Derived.Test.YthbmnjcpdjaokaaDoorCAlive
import Derived.Test.YthbmnjcpdjaokaaDoorHClone
namespace Go.Proofs.YthbmnjcpdjaokaaDoor.TSaneNames
open Go Go.SX Go.Proofs.YthbmnjcpdjaokaaDoor
set_option maxRecDepth 100000
set_option linter.unusedVariables false
set_option linter.unusedSimpArgs false

def spc (f : FuncId) (a : List AV) (m : List AObj) : Option Out := if Nat.beq f 13 && beqL a [.xslice (.lit 0) (.lit 0) (.lit 13) (.lit 13)] then some (.done (.row m.length 0 (.lit 13) 0) (m ++ [.cells [.str ⟨#[116, 97, 107, 101, 110]⟩, .str ⟨#[115, 104, 111, 114, 116]⟩, .str ⟨#[117, 110, 107, 110, 111, 119, 110]⟩, .str ⟨#[114, 101, 116, 105, 114, 101, 100]⟩, .str ⟨#[105, 100, 108, 101]⟩, .str ⟨#[118, 101, 114, 115, 105, 111, 110]⟩, .str ⟨#[109, 111, 100, 101]⟩, .str ⟨#[111, 114, 105, 103, 105, 110]⟩, .str ⟨#[107, 105, 115, 115]⟩, .str ⟨#[108, 101, 97, 112]⟩, .str ⟨#[115, 116, 114, 97, 116, 117, 109]⟩, .str ⟨#[122, 101, 114, 111]⟩, .str ⟨#[115, 108, 111, 119]⟩] 9 true (some 1)])) else none
def loops : List LoopSpec := []
def cfg : Cfg := { ok := [3, 4, 5, 6, 7, 8, 9, 10, 11, 12, 13, 14, 15, 16, 17, 18, 19, 20, 21, 22, 23, 24, 25, 26, 48], sums := fun f a m => match spc f a m with | some o => some o | none => sumsOf [(9, Alive.pat)] f a m, loops := loops }
def F : Nat → List Int → Int := fun _ _ => 0
theorem cfg_ok (G : Nat → List Int → Int) (hG : ∀ j, 100 ≤ j → j < 200 → G j = F j) : CfgOk Tryd.prog cfg G HClone.N :=
  ⟨by kernel_rfl, okB_spec (by kernel_rfl), fun f a m out h S w0 bs ρ w vs v mem' hN hρ hvs hm hp => by
    change (match spc f a m with | some o => some o | none => sumsOf [(9, Alive.pat)] f a m) = some out at h
    cases hs : spc f a m with
    | none =>
      rw [hs] at h
      exact sumsOf_sound (F := F) (l := [(9, Alive.pat)]) (fun p hp => by
    simp only [List.mem_cons, List.not_mem_nil, or_false] at hp
    rcases hp with rfl
    · exact Alive.ok F) h (fun j hj hj2 => by rw [hρ]; exact hG j hj hj2) hvs hm hp
    | some o =>
      rw [hs] at h
      cases h
      unfold spc at hs
      split at hs
      · rename_i hc
        simp only [Bool.and_eq_true] at hc
        obtain rfl := Nat.eq_of_beq_eq_true hc.1
        obtain rfl := beqL_eq hc.2
        cases hs
        cases hp
        exact HClone.sound hN hvs hm
      · cases hs⟩
def args : List AV := [.int .u8 (.var 0)]
def mem : List AObj := []
def ix : SE := .bin .rem .i64 (.conv .i64 (.var 0)) (.lit 13)
def pcOf (j : Nat) : List (SE × Bool) := [(.cmp .eql ix (.lit j), true)]
def good : Tree → Bool
  | .leaf (.bool (.lit n)) _ => n == 1
  | _ => false
theorem good_holds {t : Tree} (h : good t = true) (I : Nat → Env → Prop) (ρ : Env) : t.holds I saysTrue ρ := by
  unfold good at h
  split at h
  · rename_i n m
    have : n = 1 := by simpa using h
    subst this
    rfl
  · cases h
end Go.Proofs.YthbmnjcpdjaokaaDoor.TSaneNames
