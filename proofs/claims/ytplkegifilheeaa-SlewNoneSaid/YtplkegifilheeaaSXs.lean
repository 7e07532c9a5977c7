/- Symbolic execution of the model's code, part 15: words for contracts of functions of whole numbers. -/
import Derived.Test.YtplkegifilheeaaSXp
namespace Go.SX
variable {bs : List Ent} {ρ : Env}
theorem dvl_int {k : IntKind} {e : SE} {l : List AV} {vs : List Value} (h : dvl bs ρ (.int k e :: l) = some vs) : inR k (den ρ e) = true ∧ ∃ us, vs = .int k (den ρ e) :: us ∧ dvl bs ρ l = some us := by
  simp only [dvl, Option.bind_eq_some_iff, Option.map_eq_some_iff] at h
  obtain ⟨x, hx, xs, hxs, rfl⟩ := h
  obtain ⟨rfl, hr⟩ := dv_int hx
  exact ⟨hr, xs, rfl, hxs⟩
theorem dvl_end {vs : List Value} (h : dvl bs ρ [] = some vs) : vs = [] := by cases h; rfl
theorem i64_in {x : Int} (h : inR .i64 x = true) : -9223372036854775808 ≤ x ∧ x ≤ 9223372036854775807 := by
  have := of_decide_eq_true h
  simp [IntKind.min, IntKind.max, IntKind.bits, IntKind.signed] at this
  omega
theorem u64_in {x : Int} (h : inR .u64 x = true) : 0 ≤ x ∧ x ≤ 18446744073709551615 := by
  have := of_decide_eq_true h
  simp [IntKind.min, IntKind.max, IntKind.bits, IntKind.signed] at this
  omega
theorem u32_in {x : Int} (h : inR .u32 x = true) : 0 ≤ x ∧ x ≤ 4294967295 := by
  have := of_decide_eq_true h
  simp [IntKind.min, IntKind.max, IntKind.bits, IntKind.signed] at this
  omega
theorem u16_in {x : Int} (h : inR .u16 x = true) : 0 ≤ x ∧ x ≤ 65535 := by
  have := of_decide_eq_true h
  simp [IntKind.min, IntKind.max, IntKind.bits, IntKind.signed] at this
  omega
theorem i32_in {x : Int} (h : inR .i32 x = true) : -2147483648 ≤ x ∧ x ≤ 2147483647 := by
  have := of_decide_eq_true h
  simp [IntKind.min, IntKind.max, IntKind.bits, IntKind.signed] at this
  omega
theorem in_i64 {x : Int} (h : -9223372036854775808 ≤ x ∧ x ≤ 9223372036854775807) : inR .i64 x = true := by
  unfold inR
  simp [IntKind.min, IntKind.max, IntKind.bits, IntKind.signed]
  omega
theorem in_u64 {x : Int} (h : 0 ≤ x ∧ x ≤ 18446744073709551615) : inR .u64 x = true := by
  unfold inR
  simp [IntKind.min, IntKind.max, IntKind.bits, IntKind.signed]
  omega
theorem wrap_i64 {x : Int} (h0 : -9223372036854775808 ≤ x) (h1 : x ≤ 9223372036854775807) : IntKind.i64.wrap x = x := by rw [i64_wrap]; omega
theorem add_i64 {x y : Int} (h0 : -9223372036854775808 ≤ x + y) (h1 : x + y ≤ 9223372036854775807) : binI .add .i64 x y = x + y := by
  show IntKind.i64.wrap (x + y) = _
  exact wrap_i64 h0 h1
theorem sub_i64 {x y : Int} (h0 : -9223372036854775808 ≤ x - y) (h1 : x - y ≤ 9223372036854775807) : binI .sub .i64 x y = x - y := by
  show IntKind.i64.wrap (x - y) = _
  exact wrap_i64 h0 h1
theorem mul_i64 {x y : Int} (h0 : -9223372036854775808 ≤ x * y) (h1 : x * y ≤ 9223372036854775807) : binI .mul .i64 x y = x * y := by
  show IntKind.i64.wrap (x * y) = _
  exact wrap_i64 h0 h1
theorem rem_i64 (x y : Int) : binI .rem .i64 x y = x.tmod y := rfl
theorem dv_pair {k k' : IntKind} {e e' : SE} (h : inR k (den ρ e) = true) (h' : inR k' (den ρ e') = true) : dv bs ρ (.tuple (ofList [.int k e, .int k' e'])) = some (.tuple #[.int k (den ρ e), .int k' (den ρ e')]) := by
  simp only [ofList, dv, dvs, h, h', if_true, Option.bind_some, Option.map_some]
theorem dv_triple {k k' k'' : IntKind} {e e' e'' : SE} (h : inR k (den ρ e) = true) (h' : inR k' (den ρ e') = true) (h'' : inR k'' (den ρ e'') = true) : dv bs ρ (.tuple (ofList [.int k e, .int k' e', .int k'' e''])) = some (.tuple #[.int k (den ρ e), .int k' (den ρ e'), .int k'' (den ρ e'')]) := by
  simp only [ofList, dv, dvs, h, h', h'', if_true, Option.bind_some, Option.map_some]
end Go.SX
