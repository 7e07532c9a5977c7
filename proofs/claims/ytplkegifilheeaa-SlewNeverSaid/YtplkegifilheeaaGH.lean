/- What calls of the clock come to (New, Read, Adjust, alive), as the law's walk takes them. No conditions. -/
import Derived.Test.YtplkegifilheeaaCRead
import Derived.Test.YtplkegifilheeaaCAdj
import Derived.Test.YtplkegifilheeaaCAlive
import Derived.Test.YtplkegifilheeaaGx1
namespace Go.Proofs.Ytplkegifilheeaa.G
open Go.RowKit Go.Proofs.YtplkegifilheeaaW.PrintWords Go.Proofs.YtplkegifilheeaaW.PrintLast Go.Proofs.YtplkegifilheeaaW.PrintMore
open Go.SX (inR in_i64 i64_in dv_int_mk den evB dvl dv dvs RelM Keep ORel AObj AV Out Occ)
set_option linter.unusedVariables false
set_option linter.unusedSimpArgs false
def envOf (l : List Int) : Go.SX.Env := ⟨fun i => l.getD i 0, B.F⟩
theorem dvl_ints_mk {bs : List Go.SX.Ent} {ρ : Go.SX.Env} : ∀ {l : List Go.SX.SE}, (∀ e ∈ l, inR .i64 (den ρ e) = true) → dvl bs ρ (l.map (AV.int .i64)) = some (l.map fun e => .int .i64 (den ρ e))
  | [], _ => rfl
  | e :: l, h => by
    simp only [List.map_cons, dvl]
    rw [dv_int_mk (h e (by simp)), Option.bind_some, dvl_ints_mk (fun x hx => h x (by simp [hx]))]
    rfl
theorem relM_nil (ρ : Go.SX.Env) (w : World) : RelM [] ρ (· < w.heap.size) w [] w :=
  ⟨rfl, fun i o h => by simp at h, fun i o b h => by simp at h, fun i j o o' b b' _ h => by simp at h, ⟨rfl, rfl, rfl, Nat.le_refl _, fun _ _ => rfl, fun _ h => h⟩⟩
/-- A state at a block. -/
def fiveM : List AObj := [.cells [.int .i64 (.var 0), .int .i64 (.var 1), .int .i64 (.var 2), .int .i64 (.var 3), .int .i64 (.var 4)] 63 true (some 5)]
theorem relM_five {ρ : Go.SX.Env} {w0 w : World} {g : Nat} {x0 x1 x2 x3 x4 : Int} (h : IsS63 w0 w g x0 x1 x2 x3 x4) (e0 : ρ.v 0 = x0) (e1 : ρ.v 1 = x1) (e2 : ρ.v 2 = x2) (e3 : ρ.v 3 = x3) (e4 : ρ.v 4 = x4)
    (hi : inR .i64 x0 = true ∧ inR .i64 x1 = true ∧ inR .i64 x2 = true ∧ inR .i64 x3 = true ∧ inR .i64 x4 = true) : RelM [⟨g, 1, 0, none, 0⟩] ρ (fun b => b < w.heap.size ∧ b ≠ g) w fiveM w := by
  subst e0 e1 e2 e3 e4
  obtain ⟨i0, i1, i2, i3, i4⟩ := hi
  refine ⟨rfl, fun i o ho => ?_, fun i o b ho _ hb hS => ?_, fun i j o o' b b' hij ho ho' _ _ _ _ => ?_, ⟨rfl, rfl, rfl, Nat.le_refl _, fun _ _ => rfl, fun _ h => h.1⟩⟩
  · cases i with
    | zero =>
      cases ho
      refine ⟨_, rfl, [.int .i64 (ρ.v 0), .int .i64 (ρ.v 1), .int .i64 (ρ.v 2), .int .i64 (ρ.v 3), .int .i64 (ρ.v 4)], [], ?_, h.1, fun s hs => (by cases hs; exact ⟨rfl, show (1 : Nat) ≤ maxLen from by decide⟩), rfl⟩
      exact dvl_ints_mk (l := [.var 0, .var 1, .var 2, .var 3, .var 4]) (by
        intro x hx
        simp only [List.mem_cons, List.not_mem_nil, or_false] at hx
        rcases hx with rfl | rfl | rfl | rfl | rfl <;> assumption)
    | succ i => simp [fiveM] at ho
  · cases i with
    | zero => cases hb; exact hS.2 rfl
    | succ i => simp at hb
  · cases i with
    | zero => cases j with
      | zero => exact absurd rfl hij
      | succ j => simp [fiveM] at ho'
    | succ i => simp [fiveM] at ho
theorem dvl5 {bs : List Go.SX.Ent} {ρ : Go.SX.Env} {a b c d e : Go.SX.SE} {vs : List Value} (h : dvl bs ρ [.int .i64 a, .int .i64 b, .int .i64 c, .int .i64 d, .int .i64 e] = some vs) :
    vs = [.int .i64 (den ρ a), .int .i64 (den ρ b), .int .i64 (den ρ c), .int .i64 (den ρ d), .int .i64 (den ρ e)] := by
  obtain ⟨_, u0, rfl, h0⟩ := Go.SX.dvl_int h
  obtain ⟨_, u1, rfl, h1⟩ := Go.SX.dvl_int h0
  obtain ⟨_, u2, rfl, h2⟩ := Go.SX.dvl_int h1
  obtain ⟨_, u3, rfl, h3⟩ := Go.SX.dvl_int h2
  obtain ⟨_, u4, rfl, h4⟩ := Go.SX.dvl_int h3
  rw [Go.SX.dvl_end h4]
/-- The state as the executor leaves it. -/
theorem block5 {g : Nat} {ex : List Go.SX.Ent} {ρ : Go.SX.Env} {w0 w w' : World} {a0 a1 a2 a3 a4 : Go.SX.SE} {S : Nat → Prop} (hw0 : w0.heap.size ≤ g)
    (hR : RelM ([⟨g, 1, 0, none, 0⟩] ++ ex) ρ S w [.cells [.int .i64 a0, .int .i64 a1, .int .i64 a2, .int .i64 a3, .int .i64 a4] 63 true (some 5)] w') :
    IsS63 w0 w' g (den ρ a0) (den ρ a1) (den ρ a2) (den ρ a3) (den ρ a4) := by
  obtain ⟨b, hb, vs, tail, h1, h2, h3, h4⟩ := hR.rel 0 _ rfl
  cases hb
  obtain rfl := dvl5 h1
  have hl := (h3 5 rfl).1
  obtain rfl : tail = [] := by
    simp at hl
    exact hl
  exact ⟨h2, hw0⟩
theorem dv_two {bs : List Go.SX.Ent} {ρ : Go.SX.Env} {k k' : IntKind} {a b : Go.SX.SE} {z : Value} (h : dv bs ρ (.tuple (.cons (.int k a) (.cons (.int k' b) .nil))) = some z) : z = .tuple #[.int k (den ρ a), .int k' (den ρ b)] := by
  simp only [dv, dvs] at h
  split at h
  · split at h
    · simp at h; exact h.symm
    · simp at h
  · simp at h
theorem of_keep {g : Nat} {w0 w w' : World} (h : Keep (fun b => b < w.heap.size ∧ b ≠ g) w w') (hw0 : w0.heap.size ≤ g) (hb : Below w0.heap.size w0 w) :
    Below w0.heap.size w0 w' ∧ KeepBut w w' g none :=
  ⟨hb.trans ⟨h.os, h.tape, h.output, h.size, fun i hi => h.block i ⟨Nat.lt_of_lt_of_le hi hb.size, by omega⟩⟩, h.size, fun i hi hn _ => h.block i ⟨hi, hn⟩⟩

/-! ### alive -/
def chronobatelaw07_alive.f : Option Bool := some true
theorem chronobatelaw07_alive.calls (r : Bool) (w : World) (hf : chronobatelaw07_alive.f = some r) :
    Calls Try.prog 12 #[] w fun e w' => e = .returned (.bool r) ∧ Below w.heap.size w w' := by
  obtain rfl := Option.some.inj hf
  refine (Alive.ok (· < w.heap.size) w [] ⟨fun _ => 0, B.F⟩ w [] (.bool (.lit 1)) [] (fun _ _ _ => rfl) rfl (relM_nil _ _) rfl).mono ?_
  · rintro e w' ⟨ex, z, rfl, hz, hR⟩
    refine ⟨?_, ⟨hR.keep.os, hR.keep.tape, hR.keep.output, hR.keep.size, hR.keep.block⟩⟩
    have h2 : some (Value.bool true) = some z := hz
    rw [Option.some.inj h2]

/-! ### New -/
def slew_New.f (h c p : Int) : Option (Int × Int × Int × Int × Int × Int) :=
  if 0 ≤ h ∧ h ≤ 4611686018427387903 ∧ -2305843009213693952 ≤ c ∧ c ≤ 2305843009213693952 ∧ 1 ≤ p ∧ p ≤ 500 then some (h, c, 0, 0, p, 0) else none
theorem slew_New.calls (h c p r1 r2 r3 r4 r5 e : Int) (w0 W : World) (side1 : Below w0.heap.size w0 W) (hf : slew_New.f h c p = some (r1, r2, r3, r4, r5, e)) :
    Calls Try.prog 11 #[.int .i64 h, .int .i64 c, .int .i64 p] W fun e' w' => ∃ g, e' = .returned (.tuple #[.pointer (some ⟨g, 0, none⟩), .int .i64 e]) ∧ IsS63 w0 w' g r1 r2 r3 r4 r5 ∧ Below w0.heap.size w0 w' ∧ Below W.heap.size W w' := by
  unfold slew_New.f at hf
  by_cases hc : 0 ≤ h ∧ h ≤ 4611686018427387903 ∧ -2305843009213693952 ≤ c ∧ c ≤ 2305843009213693952 ∧ 1 ≤ p ∧ p ≤ 500
  · rw [if_pos hc] at hf
    cases hf
    obtain ⟨a1, a2, a3, a4, a5, a6⟩ := hc
    have c1 : decide (h < 0) = false := decide_eq_false (by omega)
    have c2 : decide (h > 4611686018427387903) = false := decide_eq_false (by omega)
    have c3 : decide (c < -2305843009213693952) = false := decide_eq_false (by omega)
    have c4 : decide (c > 2305843009213693952) = false := decide_eq_false (by omega)
    have c5 : decide (p < 1) = false := decide_eq_false (by omega)
    have c6 : decide (p > 500) = false := decide_eq_false (by omega)
    go_enter Try.func11, Try.ntmps11
    go_wp2
    go_ret2
    exact ⟨W.heap.size, rfl, IsS63.new w0 W h c 0 0 p side1, below_alloc side1 _, below_alloc (Below.refl _ _) _⟩
  · rw [if_neg hc] at hf; cases hf

/-! ### Read and Adjust -/
def room (x0 x4 h : Int) : Int := B.F 104 [IntKind.i64.wrap (h - x0), x4, 1000000]
def turn (x0 x2 x4 h : Int) : Int := B.F 106 [x2, IntKind.i64.wrap (0 - room x0 x4 h), room x0 x4 h]
def cnow (x0 x1 x2 x4 h : Int) : Int := IntKind.i64.wrap (IntKind.i64.wrap (x1 + IntKind.i64.wrap (h - x0)) + turn x0 x2 x4 h)
def dE : Go.SX.SE := .bin .sub .i64 (.var 10) (.var 0)
def mE : Go.SX.SE := .app 104 (.cons dE (.cons (.var 4) (.cons (.lit 1000000) .nil)))
def tE : Go.SX.SE := .app 106 (.cons (.var 2) (.cons (.bin .sub .i64 (.lit 0) mE) (.cons mE .nil)))
def cE : Go.SX.SE := .bin .add .i64 (.bin .add .i64 (.var 1) dE) tE
def okIn (l : List Int) : Bool := l.all (inR .i64)
def slew_Clock_Read.f (x0 x1 x2 x3 x4 h : Int) : Option (Int × Int × Int × Int × Int × Int × Int) :=
  if okIn [x0, x1, x2, x3, x4, h] = true ∧ h ≤ 4611686018427387903 ∧ x0 ≤ h then some (cnow x0 x1 x2 x4 h, 0, x0, x1, x2, x3, x4) else none
def slew_Clock_Adjust.f (x0 x1 x2 x3 x4 h b : Int) : Option (Int × Int × Int × Int × Int × Int) :=
  if okIn [x0, x1, x2, x3, x4, h, b] = true ∧ h ≤ 4611686018427387903 ∧ x0 ≤ h then some (0, h, cnow x0 x1 x2 x4 h, B.F 106 [b, -2305843009213693952, 2305843009213693952], IntKind.i64.wrap (x3 + turn x0 x2 x4 h), x4) else none
theorem slew_Clock_Read.calls (g : Nat) (x0 x1 x2 x3 x4 h r e f0 f1 f2 f3 f4 : Int) (w0 W : World) (side1 : IsS63 w0 W g x0 x1 x2 x3 x4) (side2 : Below w0.heap.size w0 W) (hf : slew_Clock_Read.f x0 x1 x2 x3 x4 h = some (r, e, f0, f1, f2, f3, f4)) :
    Calls Try.prog 15 #[.pointer (some ⟨g, 0, none⟩), .int .i64 h] W fun e' w' => e' = .returned (.tuple #[.int .i64 r, .int .i64 e]) ∧ IsS63 w0 w' g f0 f1 f2 f3 f4 ∧ Below w0.heap.size w0 w' ∧ KeepBut W w' g none := by
  unfold slew_Clock_Read.f at hf
  by_cases hc : okIn [x0, x1, x2, x3, x4, h] = true ∧ h ≤ 4611686018427387903 ∧ x0 ≤ h
  · rw [if_pos hc] at hf
    cases hf
    obtain ⟨ho, h1, h2⟩ := hc
    simp only [okIn, List.all_cons, List.all_nil, Bool.and_true, Bool.and_eq_true] at ho
    obtain ⟨o0, o1, o2, o3, o4, o5⟩ := ho
    refine (Read.ok (fun b => b < W.heap.size ∧ b ≠ g) W [⟨g, 1, 0, none, 0⟩] (envOf [x0, x1, x2, x3, x4, 0, 0, 0, 0, 0, h]) W [.pointer (some ⟨g, 0, none⟩), .int .i64 h] (.tuple (.cons (.int .i64 cE) (.cons (.int .i64 (.lit 0)) .nil))) fiveM (fun _ _ _ => rfl) ?_ (relM_five (ρ := envOf [x0, x1, x2, x3, x4, 0, 0, 0, 0, 0, h]) side1 rfl rfl rfl rfl rfl ⟨o0, o1, o2, o3, o4⟩) ?_).mono ?_
    · show dvl _ _ [.ptr 0 0, .int .i64 (.var 10)] = _
      simp only [dvl]
      rw [dv_int_mk (show inR .i64 (den (envOf [x0, x1, x2, x3, x4, 0, 0, 0, 0, 0, h]) (.var 10)) = true from o5)]
      rfl
    · simp only [Read.pat, Read.pc, Go.SX.needs, Read.tree, Go.SX.Tree.toOut, Go.SX.Out.pick, Go.SX.ev_lss, den]
      show (if 4611686018427387903 < h then _ else if h < x0 then _ else _) = _
      rw [if_neg (by omega), if_neg (by omega)]
      rfl
    · rintro e' w' ⟨ex, z, rfl, hz, hR⟩
      obtain rfl := dv_two hz
      obtain ⟨hb, hk⟩ := of_keep hR.keep side1.2 side2
      exact ⟨rfl, block5 side1.2 hR, hb, hk⟩
  · rw [if_neg hc] at hf; cases hf
theorem slew_Clock_Adjust.calls (g : Nat) (x0 x1 x2 x3 x4 h b e f0 f1 f2 f3 f4 : Int) (w0 W : World) (side1 : IsS63 w0 W g x0 x1 x2 x3 x4) (side2 : Below w0.heap.size w0 W) (hf : slew_Clock_Adjust.f x0 x1 x2 x3 x4 h b = some (e, f0, f1, f2, f3, f4)) :
    Calls Try.prog 13 #[.pointer (some ⟨g, 0, none⟩), .int .i64 h, .int .i64 b] W fun e' w' => e' = .returned (.int .i64 e) ∧ IsS63 w0 w' g f0 f1 f2 f3 f4 ∧ Below w0.heap.size w0 w' ∧ KeepBut W w' g none := by
  unfold slew_Clock_Adjust.f at hf
  by_cases hc : okIn [x0, x1, x2, x3, x4, h, b] = true ∧ h ≤ 4611686018427387903 ∧ x0 ≤ h
  · rw [if_pos hc] at hf
    cases hf
    obtain ⟨ho, h1, h2⟩ := hc
    simp only [okIn, List.all_cons, List.all_nil, Bool.and_true, Bool.and_eq_true] at ho
    obtain ⟨o0, o1, o2, o3, o4, o5, o6⟩ := ho
    refine (Adj.ok (fun b => b < W.heap.size ∧ b ≠ g) W [⟨g, 1, 0, none, 0⟩] (envOf [x0, x1, x2, x3, x4, 0, 0, 0, 0, 0, h, b]) W [.pointer (some ⟨g, 0, none⟩), .int .i64 h, .int .i64 b] (.int .i64 (.lit 0)) [.cells [.int .i64 (.var 10), .int .i64 cE, .int .i64 (.app 106 (.cons (.var 11) (.cons (.lit (-2305843009213693952)) (.cons (.lit 2305843009213693952) .nil)))), .int .i64 (.bin .add .i64 (.var 3) tE), .int .i64 (.var 4)] 63 true (some 5)] (fun _ _ _ => rfl) ?_ (relM_five (ρ := envOf [x0, x1, x2, x3, x4, 0, 0, 0, 0, 0, h, b]) side1 rfl rfl rfl rfl rfl ⟨o0, o1, o2, o3, o4⟩) ?_).mono ?_
    · show dvl _ _ [.ptr 0 0, .int .i64 (.var 10), .int .i64 (.var 11)] = _
      simp only [dvl]
      rw [dv_int_mk (show inR .i64 (den (envOf [x0, x1, x2, x3, x4, 0, 0, 0, 0, 0, h, b]) (.var 10)) = true from o5), dv_int_mk (show inR .i64 (den (envOf [x0, x1, x2, x3, x4, 0, 0, 0, 0, 0, h, b]) (.var 11)) = true from o6)]
      rfl
    · simp only [Adj.pat, Adj.pc, Go.SX.needs, Adj.tree, Go.SX.Tree.toOut, Go.SX.Out.pick, Go.SX.ev_lss, den]
      show (if 4611686018427387903 < h then _ else if h < x0 then _ else _) = _
      rw [if_neg (by omega), if_neg (by omega)]
      rfl
    · rintro e' w' ⟨ex, z, rfl, hz, hR⟩
      obtain ⟨rfl, _⟩ := Go.SX.dv_int hz
      obtain ⟨hb, hk⟩ := of_keep hR.keep side1.2 side2
      exact ⟨rfl, block5 side1.2 hR, hb, hk⟩
  · rw [if_neg hc] at hf; cases hf
end Go.Proofs.Ytplkegifilheeaa.G
