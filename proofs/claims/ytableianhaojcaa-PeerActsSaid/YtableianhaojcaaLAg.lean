/- Plain lemmas for rows: a parameter that is a struct or an array of whole numbers is a value of as many cells, each a number of its kind. -/
import Derived.WalkKit
import Derived.ProofKit
import Derived.OpenShut
import Derived.KernelRfl
namespace Go.Proofs.Ytableianhaojcaa.L
open Go.ChangeShapes Go.WideShapes Go.ChangeAt Go.RowKit
set_option linter.unusedVariables false

theorem cell_int {P : Program} {w : World} {r : Reach} {base : Nat} {u : TypeId} {k : IntKind} {v : Value} (hu : P.underlying u = some (.int k)) (h : Cell.okWide P w r base u v) : ∃ n, v = .int k n ∧ (Lit.int k n).wf = true := by
  simp only [Cell.okWide, hu] at h
  cases v <;> simp_all [Cell.ok]
  simp only [Lit.wf, Bool.and_eq_true, decide_eq_true_eq]
  exact h.2
theorem agg_ints {P : Program} {w : World} {r : Reach} {base : Nat} {t : TypeId} {v : Value} {us : List TypeId} (ks : List IntKind) (hA : (match P.underlying t with | some (.struct _) => true | some (.array _ _) => true | _ => false) = true)
    (hC : P.cellsOf t = ks.length) (hT : P.cellTypes P.depth t = some us) (hU : us.map (fun u => P.underlying u) = ks.map (fun k => some (TypeDesc.int k))) (h : Value.okWide P w r base t v) :
    ∃ xs : List Int, v = .agg (List.zipWith Value.int ks xs).toArray ∧ xs.length = ks.length ∧ ∀ (i : Nat) (k : IntKind) (x : Int), ks[i]? = some k → xs[i]? = some x → (Lit.int k x).wf = true := by
  have hl : us.length = ks.length := by simpa using congrArg List.length hU
  obtain ⟨cs, rfl, hsz, hr⟩ : ∃ cs, v = .agg cs ∧ cs.size = P.cellsOf t ∧ Row.okWide P w r base t cs := by
    unfold Value.okWide at h
    split at h <;> first | exact h | (rename_i h1 h2; split at hA <;> simp_all)
  obtain ⟨ts, hts, _, hc⟩ := hr
  obtain rfl : ts = us := by rw [hT] at hts; exact (Option.some.inj hts).symm
  have hcell : ∀ (i : Nat) (k : IntKind), ks[i]? = some k → ∃ n, cs[i]? = some (.int k n) ∧ (Lit.int k n).wf = true := by
    intro i k hk
    have hi : i < ks.length := (List.getElem?_eq_some_iff.1 hk).1
    have hi2 : i < cs.size := by omega
    obtain ⟨u, hu, ho⟩ := hc i cs[i] (Array.getElem?_eq_getElem hi2)
    rw [Nat.mod_eq_of_lt (by omega)] at hu
    have e := congrArg (fun l => l[i]?) hU
    simp only [List.getElem?_map, hu, hk, Option.map_some, Option.some.injEq] at e
    obtain ⟨n, hn, hw⟩ := cell_int e ho
    exact ⟨n, by rw [Array.getElem?_eq_getElem hi2, hn], hw⟩
  refine ⟨cs.toList.map intOf, ?_, by simp; omega, ?_⟩
  · congr 1
    apply Array.ext'
    apply List.ext_getElem?
    intro i
    rw [List.getElem?_zipWith]
    by_cases hi : i < ks.length
    · obtain ⟨n, hn, _⟩ := hcell i ks[i] (List.getElem?_eq_getElem hi)
      have hn' : cs.toList[i]? = some (.int ks[i] n) := by rw [Array.getElem?_toList]; exact hn
      rw [hn', List.getElem?_eq_getElem hi]
      simp [hn', intOf]
    · have h1 : cs.toList.length = cs.size := by simp
      rw [List.getElem?_eq_none (l := cs.toList) (by omega), List.getElem?_eq_none (l := ks) (by omega)]
  · intro i k x hk hx
    obtain ⟨n, hn, hw⟩ := hcell i k hk
    have hn' : cs.toList[i]? = some (.int k n) := by rw [Array.getElem?_toList]; exact hn
    rw [List.getElem?_map, hn'] at hx
    simp [intOf] at hx
    rw [← hx]
    exact hw
theorem len1 {xs : List Int} (h : xs.length = 1) : ∃ a, xs = [a] := by
  rcases xs with _ | ⟨a, _ | ⟨_, _⟩⟩ <;> simp_all
theorem len2 {xs : List Int} (h : xs.length = 2) : ∃ a b, xs = [a, b] := by
  rcases xs with _ | ⟨a, ys⟩
  · simp at h
  · obtain ⟨b, rfl⟩ := len1 (xs := ys) (by simpa using h)
    exact ⟨a, b, rfl⟩
theorem len3 {xs : List Int} (h : xs.length = 3) : ∃ a b c, xs = [a, b, c] := by
  rcases xs with _ | ⟨a, ys⟩
  · simp at h
  · obtain ⟨b, c, rfl⟩ := len2 (xs := ys) (by simpa using h)
    exact ⟨a, b, c, rfl⟩
theorem len4 {xs : List Int} (h : xs.length = 4) : ∃ a b c d, xs = [a, b, c, d] := by
  rcases xs with _ | ⟨a, ys⟩
  · simp at h
  · obtain ⟨b, c, d, rfl⟩ := len3 (xs := ys) (by simpa using h)
    exact ⟨a, b, c, d, rfl⟩
theorem len6 {xs : List Int} (h : xs.length = 6) : ∃ a b c d e f, xs = [a, b, c, d, e, f] := by
  rcases xs with _ | ⟨a, _ | ⟨b, ys⟩⟩
  · simp at h
  · simp at h
  · obtain ⟨c, d, e, f, rfl⟩ := len4 (xs := ys) (by simpa using h)
    exact ⟨a, b, c, d, e, f, rfl⟩
theorem len13 {xs : List Int} (h : xs.length = 13) : ∃ a b c d e f g i j k l m n, xs = [a, b, c, d, e, f, g, i, j, k, l, m, n] := by
  rcases xs with _ | ⟨a, _ | ⟨b, _ | ⟨c, _ | ⟨d, _ | ⟨e, _ | ⟨f, _ | ⟨g, ys⟩⟩⟩⟩⟩⟩⟩
  all_goals first | (simp at h; done) | skip
  obtain ⟨i, j, k, l, m, n, rfl⟩ := len6 (xs := ys) (by simpa using h)
  exact ⟨a, b, c, d, e, f, g, i, j, k, l, m, n, rfl⟩
end Go.Proofs.Ytableianhaojcaa.L
