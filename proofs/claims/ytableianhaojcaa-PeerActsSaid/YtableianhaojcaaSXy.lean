/- Symbolic execution of the model's code, part 19: a contract with many refusals, told with one letter for the reason. -/
import Derived.Test.YtableianhaojcaaSXx
namespace Go.SX
set_option linter.unusedSimpArgs false
set_option linter.unusedVariables false
variable {P : Program} {S : Nat → Prop} {w0 w : World} {bs : List Ent} {ρ : Env}
def doneWhy : AV → Int
  | .tuple (.cons _ (.cons (.int _ (.lit x)) .nil)) => x
  | _ => 0
def Out.why (ρ : Env) : Out → Int
  | .ite c a b => if evB ρ c = true then a.why ρ else b.why ρ
  | .done v _ => doneWhy v
  | _ => 0
def Out.okm (A Z : AV) (pm : List AObj) : Out → Bool
  | .ite _ a b => a.okm A Z pm && b.okm A Z pm
  | .done (.tuple (.cons f (.cons (.int .i64 (.lit x)) .nil))) m => beqM m pm && ((beqA f A && (x == 0 || x == 8)) || (beqA f Z && !(x == 0 || x == 8)))
  | _ => false
theorem why_pick {A Z : AV} {pm : List AObj} : ∀ {o : Out}, o.okm A Z pm = true → o.pick ρ = some (.tuple (.cons (if o.why ρ = 0 ∨ o.why ρ = 8 then A else Z) (.cons (.int .i64 (.lit (o.why ρ))) .nil)), pm) := by
  intro o
  induction o with
  | ite c a b iha ihb =>
    intro h
    simp only [Out.okm, Bool.and_eq_true] at h
    simp only [Out.pick, Out.why]
    split
    · exact iha h.1
    · exact ihb h.2
  | done v m =>
    intro h
    unfold Out.okm at h
    split at h
    · rename_i heq; cases heq
    · rename_i f x m' heq
      cases heq
      simp only [Bool.and_eq_true, Bool.or_eq_true, Bool.not_eq_true', Bool.or_eq_false_iff, beq_iff_eq, beq_eq_false_iff_ne] at h
      obtain ⟨h1, h2⟩ := h
      obtain rfl := beqM_eq h1
      show some (AV.tuple (.cons f (.cons (.int .i64 (.lit x)) .nil)), _) = some (AV.tuple (.cons (if x = 0 ∨ x = 8 then A else Z) (.cons (.int .i64 (.lit x)) .nil)), _)
      rcases h2 with ⟨h3, h4⟩ | ⟨h3, h4, h5⟩
      · rw [if_pos h4, beqA_eq h3]
      · rw [if_neg (by omega), beqA_eq h3]
    · cases h
  | need c a ih => intro h; cases h
  | fail n => intro h; cases h
mutual
def SE.oky : SE → Bool
  | .var i => i == 0 || i == 100
  | .bin _ _ x y => x.oky && y.oky
  | .conv _ x => x.oky
  | .cmp _ x y => x.oky && y.oky
  | .not x => x.oky
  | .and x y => x.oky && y.oky
  | .mx x y => x.oky && y.oky
  | .mn x y => x.oky && y.oky
  | .app f a => f == 0 && a.okyL
  | _ => true
def SE.okyL : SE → Bool
  | .cons x y => x.oky && y.okyL
  | _ => true
end
mutual
theorem den_cong {ρ τ : Env} (h0 : ρ.v 0 = τ.v 0) (hk : ρ.v 100 = τ.v 100) (hf : ρ.f 0 = τ.f 0) : ∀ e : SE, e.oky = true → den ρ e = den τ e
  | .var i, h => by
    simp only [SE.oky, Bool.or_eq_true, beq_iff_eq] at h
    simp only [den]
    rcases h with rfl | rfl
    · exact h0
    · exact hk
  | .bin _ _ x y, h => by
    simp only [SE.oky, Bool.and_eq_true] at h
    simp only [den, den_cong h0 hk hf x h.1, den_cong h0 hk hf y h.2]
  | .conv _ x, h => by
    simp only [SE.oky] at h
    simp only [den, den_cong h0 hk hf x h]
  | .cmp _ x y, h => by
    simp only [SE.oky, Bool.and_eq_true] at h
    simp only [den, den_cong h0 hk hf x h.1, den_cong h0 hk hf y h.2]
  | .not x, h => by
    simp only [SE.oky] at h
    simp only [den, den_cong h0 hk hf x h]
  | .and x y, h => by
    simp only [SE.oky, Bool.and_eq_true] at h
    simp only [den, den_cong h0 hk hf x h.1, den_cong h0 hk hf y h.2]
  | .mx x y, h => by
    simp only [SE.oky, Bool.and_eq_true] at h
    simp only [den, den_cong h0 hk hf x h.1, den_cong h0 hk hf y h.2]
  | .mn x y, h => by
    simp only [SE.oky, Bool.and_eq_true] at h
    simp only [den, den_cong h0 hk hf x h.1, den_cong h0 hk hf y h.2]
  | .app f a, h => by
    simp only [SE.oky, Bool.and_eq_true, beq_iff_eq] at h
    obtain ⟨rfl, h⟩ := h
    simp only [den, dens_cong h0 hk hf a h, hf]
  | .lit _, _ => rfl
  | .nil, _ => rfl
  | .cons _ _, _ => rfl
theorem dens_cong {ρ τ : Env} (h0 : ρ.v 0 = τ.v 0) (hk : ρ.v 100 = τ.v 100) (hf : ρ.f 0 = τ.f 0) : ∀ e : SE, e.okyL = true → dens ρ e = dens τ e
  | .cons x y, h => by
    simp only [SE.okyL, Bool.and_eq_true] at h
    simp only [dens, den_cong h0 hk hf x h.1, dens_cong h0 hk hf y h.2]
  | .lit _, _ | .bin _ _ _ _, _ | .conv _ _, _ | .cmp _ _ _, _ | .not _, _ | .and _ _, _ | .mx _ _, _ | .mn _ _, _ | .app _ _, _ | .nil, _ | .var _, _ => rfl
end
def Out.oky : Out → Bool
  | .ite c a b => c.oky && a.oky && b.oky
  | .need _ _ => false
  | _ => true
theorem why_cong {ρ τ : Env} (h0 : ρ.v 0 = τ.v 0) (hk : ρ.v 100 = τ.v 100) (hf : ρ.f 0 = τ.f 0) : ∀ o : Out, o.oky = true → o.why ρ = o.why τ := by
  intro o
  induction o with
  | ite c a b iha ihb =>
    intro h
    simp only [Out.oky, Bool.and_eq_true] at h
    have e : evB ρ c = evB τ c := by unfold evB; rw [den_cong h0 hk hf c h.1.1]
    show (if evB ρ c = true then a.why ρ else b.why ρ) = if evB τ c = true then a.why τ else b.why τ
    rw [e, iha h.1.2, ihb h.2]
  | need c a ih => intro h; cases h
  | done v m => intro _; rfl
  | fail n => intro _; rfl
def whyL (out : Out) (F : List Int → Int) : List Int → Int
  | [b, o, n, k] => out.why { v := fun i => if i = 0 then n else k, f := fun _ l => F (b :: o :: l) }
  | _ => 0
theorem whyL_tx (out : Out) (h : out.oky = true) (b o n k c : Int) : whyL out (ρ.f 202) [b, o, n, k] = out.why (ρ.tx n c k b o) := by
  refine why_cong ?_ ?_ ?_ out h <;> rfl
def mrgO (A Z : AV) (θ : TX) (mem : List AObj) : Out :=
  let x : SE := .app 203 (.cons θ.b (.cons θ.o (.cons θ.n (.cons θ.k .nil))))
  .ite (.cmp .eql x (.lit 0)) (.done (.tuple (.cons (A.tx θ) (.cons (.int .i64 (.lit 0)) .nil))) mem)
    (.ite (.cmp .eql x (.lit 8)) (.done (.tuple (.cons (A.tx θ) (.cons (.int .i64 (.lit 8)) .nil))) mem)
      (.done (.tuple (.cons (Z.tx θ) (.cons (.int .i64 x) .nil))) mem))
theorem mrg_pick {A Z : AV} {θ : TX} {mem mem' pm : List AObj} {v : AV} {out : Out} {c : Int} (hA : A.okx = true) (hZ : Z.okx = true) (ho : out.okm A Z pm = true)
    (hw : ρ.f 203 [den ρ θ.b, den ρ θ.o, den ρ θ.n, den ρ θ.k] = out.why (ρ.tx (den ρ θ.n) c (den ρ θ.k) (den ρ θ.b) (den ρ θ.o))) (hp : (mrgO A Z θ mem).pick ρ = some (v, mem')) :
    ∃ v0, out.pick (ρ.tx (den ρ θ.n) c (den ρ θ.k) (den ρ θ.b) (den ρ θ.o)) = some (v0, pm) ∧ (∀ bp, dv bs ρ v = dv bp (ρ.tx (den ρ θ.n) c (den ρ θ.k) (den ρ θ.b) (den ρ θ.o)) v0) ∧ mem' = mem := by
  have hpk := why_pick (ρ := ρ.tx (den ρ θ.n) c (den ρ θ.k) (den ρ θ.b) (den ρ θ.o)) ho
  rw [← hw] at hpk
  have hx : den ρ (.app 203 (.cons θ.b (.cons θ.o (.cons θ.n (.cons θ.k .nil))))) = ρ.f 203 [den ρ θ.b, den ρ θ.o, den ρ θ.n, den ρ θ.k] := rfl
  generalize hy : ρ.f 203 [den ρ θ.b, den ρ θ.o, den ρ θ.n, den ρ θ.k] = y at *
  have ev : ∀ n : Int, evB ρ (.cmp .eql (.app 203 (.cons θ.b (.cons θ.o (.cons θ.n (.cons θ.k .nil))))) (.lit n)) = (y == n) := fun n => by
    rw [evB, den, ofB_bne, hx]; rfl
  simp only [mrgO, Out.pick, ev] at hp
  by_cases h0 : y = 0
  · subst h0
    cases hp
    refine ⟨_, hpk, fun bp => ?_, rfl⟩
    rw [if_pos (.inl rfl)]
    simp only [dv, dvs, dv_tx (bp := bp) θ c A hA]
    rfl
  · rw [if_neg (by simpa using h0)] at hp
    by_cases h8 : y = 8
    · subst h8
      cases hp
      refine ⟨_, hpk, fun bp => ?_, rfl⟩
      rw [if_pos (.inr rfl)]
      simp only [dv, dvs, dv_tx (bp := bp) θ c A hA]
      rfl
    · rw [if_neg (by simpa using h8)] at hp
      cases hp
      refine ⟨_, hpk, fun bp => ?_, rfl⟩
      rw [if_neg (by omega)]
      simp only [dv, dvs, dv_tx (bp := bp) θ c Z hZ, hx]
      rfl
theorem mrg_sound {F : Nat → List Int → Int} {f : FuncId} {u8 : TypeId} {out : Out} {A Z : AV} (hs : SumOk P F f ⟨[.arg 0, .int .u64 (.var 100)], [.sym (.var 0) (.var 1) [.int .u8 0] u8], out⟩) (hA : A.okx = true) (hZ : Z.okx = true)
    (ho : out.okm A Z [.sym (.var 0) (.var 1) [.int .u8 0] u8] = true) (hw : ∀ b o n k c : Int, ρ.f 203 [b, o, n, k] = out.why (ρ.tx n c k b o))
    {n k b o c : SE} {mem mem' : List AObj} {vs : List Value} {v : AV} (hF : ∀ j, 100 ≤ j → j < 200 → ρ.f j = F j) (hx : XOk (ρ.f 202) S w0 (den ρ b) (den ρ o) (den ρ n) (den ρ c))
    (hvs : dvl bs ρ [.xslice b o n c, .int .u64 k] = some vs) (hm : RelM bs ρ S w0 mem w) (hp : (mrgO A Z ⟨n, k, b, o⟩ mem).pick ρ = some (v, mem')) : Comes P S w0 bs ρ f vs w v mem' := by
  obtain ⟨a, len, cap, h1, h2, h3, h4, h5⟩ := hx
  obtain ⟨v0, hp0, hdv, rfl⟩ := mrg_pick (bs := bs) (θ := ⟨n, k, b, o⟩) (c := (cap : Int)) hA hZ ho (hw _ _ _ _ _) hp
  generalize hρ' : ρ.tx (den ρ n) cap (den ρ k) (den ρ b) (den ρ o) = ρ' at hp0 hdv
  let e0 : Ent := entOf a len cap
  have hf0 : ∀ l, ρ'.f 0 l = ρ.f 202 (den ρ b :: den ρ o :: l) := fun l => by rw [← hρ']; rfl
  have hv0 : ρ'.v 0 = den ρ n := by rw [← hρ']; rfl
  have hv1 : ρ'.v 1 = cap := by rw [← hρ']; rfl
  have hvk : ρ'.v 100 = den ρ k := by rw [← hρ']; rfl
  have hM : RelM [e0] ρ' (· < w.heap.size) w [.sym (.var 0) (.var 1) [.int .u8 0] u8] w := by
    refine RelM.foreign rfl (fun i x hx => ?_) rfl
    match i, hx with
    | 0, hx =>
      cases hx
      refine ⟨e0, rfl, ?_, ?_, ?_, ?_, ?_, fun hc => ?_⟩
      · show len = (ρ'.v 0).toNat; omega
      · show cap = (ρ'.v 1).toNat; omega
      · show 0 ≤ ρ'.v 0; omega
      · show ρ'.v 0 ≤ ρ'.v 1; omega
      · show ρ'.v 1 ≤ _; omega
      · have hc' : 0 < ρ'.v 1 := hc
        obtain ⟨blk, off, rfl, hS, hlt, hcell⟩ := h5 (by omega)
        have hkb := hm.keep.block blk hS
        refine ⟨rfl, ?_, fun i j p hi hpj => ?_⟩
        · have := hm.keep.old blk hS; have := hm.keep.size; show blk < _; omega
        · have hi' : i < cap := by have : i < (ρ'.v 1).toNat := hi; omega
          match j, hpj with
          | 0, hpj =>
            cases hpj
            obtain ⟨q1, q2⟩ := hcell i hi'
            rw [← hf0 [(i : Int)]] at q1 q2
            refine ⟨?_, q2⟩
            show w.cell? ⟨blk, off + (i * 1 + 0), none⟩ = _
            rw [World.cell?_of_block (w := w0) hkb, Nat.mul_one, Nat.add_zero]
            exact q1
  have hvs' : dvl [e0] ρ' [.arg 0, .int .u64 (.var 100)] = some vs := by
    rw [← hvs]
    simp only [dvl, dv, den, hvk, h1]
    rfl
  refine (hs (· < w.heap.size) w [e0] ρ' w vs v0 _ (fun j hj hj2 => ?_) hvs' hM hp0).mono ?_
  · rw [← hF j hj hj2, ← hρ']
    funext l
    show (if j = 0 then _ else ρ.f j l) = _
    rw [if_neg (by omega)]
  · rintro e w' ⟨ex, z, rfl, hz, hM'⟩
    refine ⟨[], z, rfl, ?_, ?_⟩
    · rw [List.append_nil, hdv ([e0] ++ ex)]
      exact hz
    · rw [List.append_nil]
      exact hm.after hM'.keep
def mrgA (cs : Nat × Nat × Nat × Nat) (l : List FuncId) (A Z : AV) (f : FuncId) (a : List AV) (m : List AObj) : Option Out :=
  match a with
  | [.xslice (.app jb (.cons i .nil)) (.app jo (.cons i1 .nil)) (.app jn (.cons i2 .nil)) (.app jc (.cons i3 .nil)), .int .u64 k] =>
    if (Nat.beq jb cs.1 && Nat.beq jo cs.2.1 && Nat.beq jn cs.2.2.1 && Nat.beq jc cs.2.2.2 && beqS i i1 && beqS i i2 && beqS i i3 && l.contains f) = true then
      some (mrgO A Z ⟨.app jn (.cons i .nil), k, .app jb (.cons i .nil), .app jo (.cons i .nil)⟩ m)
    else none
  | _ => none
theorem mrgA_sound {F : Nat → List Int → Int} {cs : Nat × Nat × Nat × Nat} {l : List FuncId} {u8 : TypeId} {A Z : AV} (hA : A.okx = true) (hZ : Z.okx = true)
    (hl : ∀ f ∈ l, ∃ out, SumOk P F f ⟨[.arg 0, .int .u64 (.var 100)], [.sym (.var 0) (.var 1) [.int .u8 0] u8], out⟩ ∧ out.okm A Z [.sym (.var 0) (.var 1) [.int .u8 0] u8] = true ∧ ∀ b o n k c : Int, ρ.f 203 [b, o, n, k] = out.why (ρ.tx n c k b o))
    {f : FuncId} {a : List AV} {m mem' : List AObj} {out : Out} {vs : List Value} {v : AV} (h : mrgA cs l A Z f a m = some out) (hF : ∀ j, 100 ≤ j → j < 200 → ρ.f j = F j)
    (hN : ∀ i : Int, XOk (ρ.f 202) S w0 (ρ.f cs.1 [i]) (ρ.f cs.2.1 [i]) (ρ.f cs.2.2.1 [i]) (ρ.f cs.2.2.2 [i])) (hvs : dvl bs ρ a = some vs) (hm : RelM bs ρ S w0 m w) (hp : out.pick ρ = some (v, mem')) : Comes P S w0 bs ρ f vs w v mem' := by
  unfold mrgA at h
  split at h
  · rename_i jb i jo i1 jn i2 jc i3 k
    split at h
    · rename_i hc
      simp only [Bool.and_eq_true] at hc
      obtain ⟨⟨⟨⟨⟨⟨⟨c1, c2⟩, c3⟩, c4⟩, c5⟩, c6⟩, c7⟩, c8⟩ := hc
      obtain rfl := beqS_eq c5
      obtain rfl := beqS_eq c6
      obtain rfl := beqS_eq c7
      cases h
      obtain ⟨o, h1, h2, h3⟩ := hl f (by simpa using c8)
      have hx := hN (den ρ i)
      rw [← Nat.eq_of_beq_eq_true c1, ← Nat.eq_of_beq_eq_true c2, ← Nat.eq_of_beq_eq_true c3, ← Nat.eq_of_beq_eq_true c4] at hx
      exact mrg_sound (n := .app jn (.cons i .nil)) (k := k) (b := .app jb (.cons i .nil)) (o := .app jo (.cons i .nil)) (c := .app jc (.cons i .nil)) h1 hA hZ h2 h3 hF hx hvs hm hp
    · cases h
  · cases h
end Go.SX
