/- The law SaneNames: at every remainder all ends say true. No conditions. -/
import Derived.Test.YthbmnjcpdjaokaaDoorTSn0
import Derived.Test.YthbmnjcpdjaokaaDoorTSn1
import Derived.Test.YthbmnjcpdjaokaaDoorTSn2
import Derived.Test.YthbmnjcpdjaokaaDoorTSn3
import Derived.Test.YthbmnjcpdjaokaaDoorTSn4
import Derived.Test.YthbmnjcpdjaokaaDoorTSn5
import Derived.Test.YthbmnjcpdjaokaaDoorTSn6
namespace Go.Proofs.YthbmnjcpdjaokaaDoor.TSaneNames
open Go Go.SX Go.Proofs.YthbmnjcpdjaokaaDoor
structure At (j : Nat) : Prop where
  h : good (callT Tryd.prog cfg 100000 0 4 args mem (pcOf j)) = true
theorem goods (j : Nat) (h : j < 13) : At j := by
  have h : j = 0 ∨ j = 1 ∨ j = 2 ∨ j = 3 ∨ j = 4 ∨ j = 5 ∨ j = 6 ∨ j = 7 ∨ j = 8 ∨ j = 9 ∨ j = 10 ∨ j = 11 ∨ j = 12 := by omega
  rcases h with rfl | rfl | rfl | rfl | rfl | rfl | rfl | rfl | rfl | rfl | rfl | rfl | rfl
  · exact ⟨at0⟩
  · exact ⟨at1⟩
  · exact ⟨at2⟩
  · exact ⟨at3⟩
  · exact ⟨at4⟩
  · exact ⟨at5⟩
  · exact ⟨at6⟩
  · exact ⟨at7⟩
  · exact ⟨at8⟩
  · exact ⟨at9⟩
  · exact ⟨at10⟩
  · exact ⟨at11⟩
  · exact ⟨at12⟩
theorem tree_ex (j : Nat) (h : j < 13) : ∃ t, callT Tryd.prog cfg 100000 0 4 args mem (pcOf j) = t ∧ good t = true := by
  have hg := (goods j h).h
  revert hg
  generalize callT Tryd.prog cfg 100000 0 4 args mem (pcOf j) = t
  exact fun hg => ⟨t, rfl, hg⟩
theorem pc_ok (ρ : Env) (h0 : inR .u8 (ρ.v 0) = true) : ∀ p ∈ pcOf (ρ.v 0 % 13).toNat, evB ρ p.1 = p.2 := by
  have b := u8_inR h0
  have t : den ρ ix = ρ.v 0 % 13 := by
    show (IntKind.i64.wrap (ρ.v 0)).tmod 13 = _
    have e : IntKind.i64.wrap (ρ.v 0) = ρ.v 0 := by rw [i64_wrap]; omega
    rw [e, Int.tmod_eq_emod_of_nonneg b.1]
  intro p hp
  unfold pcOf at hp
  simp only [List.mem_cons, List.not_mem_nil, or_false] at hp
  subst hp
  rw [ev_eql, t]
  simp only [den_lit]
  omega
end Go.Proofs.YthbmnjcpdjaokaaDoor.TSaneNames
