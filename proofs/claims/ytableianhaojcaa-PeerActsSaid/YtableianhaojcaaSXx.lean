/- Symbolic execution of the model's code, part 18: a contract that was told of a slice as an argument holds of a slice that is a member of a row. -/
import Derived.Test.YtableianhaojcaaSX3
namespace Go.SX
set_option linter.unusedSimpArgs false
set_option linter.unusedVariables false
variable {P : Program} {S : Nat → Prop} {w0 w : World} {bs : List Ent} {ρ : Env}
structure TX where
  n : SE
  k : SE
  b : SE
  o : SE
mutual
def SE.tx (θ : TX) : SE → SE
  | .var i => if i = 0 then θ.n else θ.k
  | .bin op q x y => .bin op q (x.tx θ) (y.tx θ)
  | .conv q x => .conv q (x.tx θ)
  | .cmp op x y => .cmp op (x.tx θ) (y.tx θ)
  | .not x => .not (x.tx θ)
  | .and x y => .and (x.tx θ) (y.tx θ)
  | .mx x y => .mx (x.tx θ) (y.tx θ)
  | .mn x y => .mn (x.tx θ) (y.tx θ)
  | .app f a => if f = 0 then .app 202 (.cons θ.b (.cons θ.o (a.txL θ))) else .app f (a.txL θ)
  | .lit x => .lit x
  | .nil => .lit 0
  | .cons _ _ => .lit 0
def SE.txL (θ : TX) : SE → SE
  | .cons x y => .cons (x.tx θ) (y.txL θ)
  | _ => .nil
end
mutual
def SE.okx : SE → Bool
  | .var i => i == 0 || i == 100
  | .bin _ _ x y => x.okx && y.okx
  | .conv _ x => x.okx
  | .cmp _ x y => x.okx && y.okx
  | .not x => x.okx
  | .and x y => x.okx && y.okx
  | .mx x y => x.okx && y.okx
  | .mn x y => x.okx && y.okx
  | .app _ a => a.okxL
  | _ => true
def SE.okxL : SE → Bool
  | .cons x y => x.okx && y.okxL
  | _ => true
end
def Env.tx (ρ : Env) (n c k b o : Int) : Env := { v := fun i => if i = 0 then n else if i = 1 then c else k, f := fun j l => if j = 0 then ρ.f 202 (b :: o :: l) else ρ.f j l }
mutual
theorem den_tx (θ : TX) (c : Int) : ∀ e : SE, e.okx = true → den ρ (e.tx θ) = den (ρ.tx (den ρ θ.n) c (den ρ θ.k) (den ρ θ.b) (den ρ θ.o)) e
  | .var i, h => by
    simp only [SE.okx, Bool.or_eq_true, beq_iff_eq] at h
    simp only [SE.tx, den, Env.tx]
    rcases h with rfl | rfl <;> rfl
  | .bin _ _ x y, h => by
    simp only [SE.okx, Bool.and_eq_true] at h
    simp only [SE.tx, den, den_tx θ c x h.1, den_tx θ c y h.2]
  | .conv _ x, h => by
    simp only [SE.okx] at h
    simp only [SE.tx, den, den_tx θ c x h]
  | .cmp _ x y, h => by
    simp only [SE.okx, Bool.and_eq_true] at h
    simp only [SE.tx, den, den_tx θ c x h.1, den_tx θ c y h.2]
  | .not x, h => by
    simp only [SE.okx] at h
    simp only [SE.tx, den, den_tx θ c x h]
  | .and x y, h => by
    simp only [SE.okx, Bool.and_eq_true] at h
    simp only [SE.tx, den, den_tx θ c x h.1, den_tx θ c y h.2]
  | .mx x y, h => by
    simp only [SE.okx, Bool.and_eq_true] at h
    simp only [SE.tx, den, den_tx θ c x h.1, den_tx θ c y h.2]
  | .mn x y, h => by
    simp only [SE.okx, Bool.and_eq_true] at h
    simp only [SE.tx, den, den_tx θ c x h.1, den_tx θ c y h.2]
  | .app f a, h => by
    simp only [SE.okx] at h
    simp only [SE.tx]
    split
    · rename_i hf
      subst hf
      simp only [den, dens, dens_tx θ c a h]
      rfl
    · rename_i hf
      simp only [den, dens_tx θ c a h, Env.tx, if_neg hf]
  | .lit _, _ => rfl
  | .nil, _ => rfl
  | .cons _ _, _ => rfl
theorem dens_tx (θ : TX) (c : Int) : ∀ e : SE, e.okxL = true → dens ρ (e.txL θ) = dens (ρ.tx (den ρ θ.n) c (den ρ θ.k) (den ρ θ.b) (den ρ θ.o)) e
  | .cons x y, h => by
    simp only [SE.okxL, Bool.and_eq_true] at h
    simp only [SE.txL, dens, den_tx θ c x h.1, dens_tx θ c y h.2]
  | .lit _, _ | .bin _ _ _ _, _ | .conv _ _, _ | .cmp _ _ _, _ | .not _, _ | .and _ _, _ | .mx _ _, _ | .mn _ _, _ | .app _ _, _ | .nil, _ | .var _, _ => rfl
end
theorem evB_tx (θ : TX) (c : Int) (e : SE) (h : e.okx = true) : evB ρ (e.tx θ) = evB (ρ.tx (den ρ θ.n) c (den ρ θ.k) (den ρ θ.b) (den ρ θ.o)) e := by
  unfold evB; rw [den_tx θ c e h]
def AV.tx (θ : TX) : AV → AV
  | .int q e => .int q (e.tx θ)
  | .bool e => .bool (e.tx θ)
  | .agg l => .agg (l.tx θ)
  | .tuple l => .tuple (l.tx θ)
  | .cons x y => .cons (x.tx θ) (y.tx θ)
  | _ => .nil
def AV.okx : AV → Bool
  | .int _ e => e.okx
  | .bool e => e.okx
  | .agg l => l.okx
  | .tuple l => l.okx
  | .cons x y => x.okx && y.okx
  | .nil => true
  | _ => false
mutual
theorem dv_tx {bp : List Ent} (θ : TX) (c : Int) : ∀ a : AV, a.okx = true → dv bs ρ (a.tx θ) = dv bp (ρ.tx (den ρ θ.n) c (den ρ θ.k) (den ρ θ.b) (den ρ θ.o)) a
  | .int q e, h => by
    simp only [AV.okx] at h
    simp only [AV.tx, dv, den_tx θ c e h]
  | .bool e, h => by
    simp only [AV.okx] at h
    simp only [AV.tx, dv, evB, den_tx θ c e h]
  | .agg l, h => by
    simp only [AV.okx] at h
    simp only [AV.tx, dv, dvs_tx (bp := bp) θ c l h]
  | .tuple l, h => by
    simp only [AV.okx] at h
    simp only [AV.tx, dv, dvs_tx (bp := bp) θ c l h]
  | .cons _ _, _ => rfl
  | .nil, _ => rfl
  | .str _, h | .ptr _ _, h | .sptr _ _ _ _, h | .nilptr, h | .gptr _, h | .slice _ _ _ _, h | .arg _, h | .mapv _, h | .row _ _ _ _, h | .nilslice, h | .bstr _, h | .fn _ _, h | .fnx _ _, h | .nilFunc, h | .iface _ _, h | .nilIface, h | .xslice _ _ _ _, h => by simp [AV.okx] at h
theorem dvs_tx {bp : List Ent} (θ : TX) (c : Int) : ∀ a : AV, a.okx = true → dvs bs ρ (a.tx θ) = dvs bp (ρ.tx (den ρ θ.n) c (den ρ θ.k) (den ρ θ.b) (den ρ θ.o)) a
  | .cons x y, h => by
    simp only [AV.okx, Bool.and_eq_true] at h
    simp only [AV.tx, dvs, dv_tx (bp := bp) θ c x h.1, dvs_tx (bp := bp) θ c y h.2]
  | .nil, _ => rfl
  | .int _ _, _ | .bool _, _ | .agg _, _ | .tuple _, _ => rfl
  | .str _, h | .ptr _ _, h | .sptr _ _ _ _, h | .nilptr, h | .gptr _, h | .slice _ _ _ _, h | .arg _, h | .mapv _, h | .row _ _ _ _, h | .nilslice, h | .bstr _, h | .fn _ _, h | .fnx _ _, h | .nilFunc, h | .iface _ _, h | .nilIface, h | .xslice _ _ _ _, h => by simp [AV.okx] at h
end
def Out.tx (θ : TX) (mem : List AObj) : Out → Out
  | .ite c x y => .ite (c.tx θ) (x.tx θ mem) (y.tx θ mem)
  | .need c x => .need (c.tx θ) (x.tx θ mem)
  | .done v _ => .done (v.tx θ) mem
  | .fail j => .fail j
def Out.okx (pm : List AObj) : Out → Bool
  | .ite c x y => c.okx && x.okx pm && y.okx pm
  | .need c x => c.okx && x.okx pm
  | .done v m => v.okx && beqM m pm
  | .fail _ => true
theorem pick_tx {θ : TX} (c : Int) {mem mem' pm : List AObj} {v : AV} : ∀ {out : Out}, out.okx pm = true → (out.tx θ mem).pick ρ = some (v, mem') →
    ∃ v0, out.pick (ρ.tx (den ρ θ.n) c (den ρ θ.k) (den ρ θ.b) (den ρ θ.o)) = some (v0, pm) ∧ v0.okx = true ∧ v = v0.tx θ ∧ mem' = mem := by
  intro out
  induction out with
  | ite e x y ihx ihy =>
    intro h hp
    simp only [Out.okx, Bool.and_eq_true] at h
    simp only [Out.tx, Out.pick, evB_tx θ c e h.1.1] at hp ⊢
    split at hp
    · rename_i hc; rw [if_pos hc]; exact ihx h.1.2 hp
    · rename_i hc; rw [if_neg hc]; exact ihy h.2 hp
  | need e x ih =>
    intro h hp
    simp only [Out.okx, Bool.and_eq_true] at h
    simp only [Out.tx, Out.pick, evB_tx θ c e h.1] at hp ⊢
    split at hp
    · rename_i hc; rw [if_pos hc]; exact ih h.2 hp
    · cases hp
  | done u m =>
    intro h hp
    simp only [Out.okx, Bool.and_eq_true] at h
    cases hp
    obtain rfl := beqM_eq h.2
    exact ⟨u, rfl, h.1, rfl, rfl⟩
  | fail j => intro h hp; cases hp
theorem RelM.after {mem : List AObj} {w' : World} (hm : RelM bs ρ S w0 mem w) (hk : Keep (· < w.heap.size) w w') : RelM bs ρ S w0 mem w' := by
  refine ⟨hm.len, fun i o ho => ?_, hm.own, hm.apart, ⟨hk.os.trans hm.keep.os, hk.tape.trans hm.keep.tape, hk.output.trans hm.keep.output, Nat.le_trans hm.keep.size hk.size, fun x hx => (hk.block x (by have := hm.keep.old x hx; have := hm.keep.size; show x < _; omega)).trans (hm.keep.block x hx), hm.keep.old⟩⟩
  obtain ⟨b, hb, hr⟩ := hm.rel i o ho
  exact ⟨b, hb, hr.same fun hoc => hk.block _ (hr.lt hoc)⟩
def XOk (F : List Int → Int) (S : Nat → Prop) (w0 : World) (b o n c : Int) : Prop :=
  ∃ (a : Option Addr) (len cap : Nat), xsV b o n c = .slice a len cap ∧ (len : Int) = n ∧ len ≤ cap ∧ cap ≤ 9223372036854775807 ∧
    (0 < cap → ∃ blk off : Nat, a = some ⟨blk, off, none⟩ ∧ S blk ∧ blk < w0.heap.size ∧ ∀ i : Nat, i < cap → w0.cell? ⟨blk, off + i, none⟩ = some (.int .u8 (F [b, o, i])) ∧ inR .u8 (F [b, o, i]) = true)
theorem tx_sound {F : Nat → List Int → Int} {f : FuncId} {u8 : TypeId} {out : Out} (hs : SumOk P F f ⟨[.arg 0, .int .u64 (.var 100)], [.sym (.var 0) (.var 1) [.int .u8 0] u8], out⟩) (hok : out.okx [.sym (.var 0) (.var 1) [.int .u8 0] u8] = true)
    {n k b o c : SE} {mem mem' : List AObj} {vs : List Value} {v : AV} (hF : ∀ j, 100 ≤ j → j < 200 → ρ.f j = F j) (hx : XOk (ρ.f 202) S w0 (den ρ b) (den ρ o) (den ρ n) (den ρ c))
    (hvs : dvl bs ρ [.xslice b o n c, .int .u64 k] = some vs) (hm : RelM bs ρ S w0 mem w) (hp : (out.tx ⟨n, k, b, o⟩ mem).pick ρ = some (v, mem')) : Comes P S w0 bs ρ f vs w v mem' := by
  obtain ⟨a, len, cap, h1, h2, h3, h4, h5⟩ := hx
  obtain ⟨v0, hp0, hok0, rfl, rfl⟩ := pick_tx (θ := ⟨n, k, b, o⟩) (cap : Int) hok hp
  generalize hρ' : ρ.tx (den ρ n) cap (den ρ k) (den ρ b) (den ρ o) = ρ' at hp0
  let e0 : Ent := entOf a len cap
  have hf0 : ∀ l, ρ'.f 0 l = ρ.f 202 (den ρ b :: den ρ o :: l) := fun l => by rw [← hρ']; rfl
  have hv0 : ρ'.v 0 = den ρ n := by rw [← hρ']; rfl
  have hv1 : ρ'.v 1 = cap := by rw [← hρ']; rfl
  have hvk : ρ'.v 100 = den ρ k := by rw [← hρ']; rfl
  have hM : RelM [e0] ρ' (· < w.heap.size) w [.sym (.var 0) (.var 1) [.int .u8 0] u8] w := by
    refine RelM.foreign rfl (fun i x hx => ?_) rfl
    match i, hx with
    | 0, hx =>
      cases hx
      refine ⟨e0, rfl, ?_, ?_, ?_, ?_, ?_, fun hc => ?_⟩
      · show len = (ρ'.v 0).toNat; omega
      · show cap = (ρ'.v 1).toNat; omega
      · show 0 ≤ ρ'.v 0; omega
      · show ρ'.v 0 ≤ ρ'.v 1; omega
      · show ρ'.v 1 ≤ _; omega
      · have hc' : 0 < ρ'.v 1 := hc
        obtain ⟨blk, off, rfl, hS, hlt, hcell⟩ := h5 (by omega)
        have hkb := hm.keep.block blk hS
        refine ⟨rfl, ?_, fun i j p hi hpj => ?_⟩
        · have := hm.keep.old blk hS; have := hm.keep.size; show blk < _; omega
        · have hi' : i < cap := by have : i < (ρ'.v 1).toNat := hi; omega
          match j, hpj with
          | 0, hpj =>
            cases hpj
            obtain ⟨q1, q2⟩ := hcell i hi'
            rw [← hf0 [(i : Int)]] at q1 q2
            refine ⟨?_, q2⟩
            show w.cell? ⟨blk, off + (i * 1 + 0), none⟩ = _
            rw [World.cell?_of_block (w := w0) hkb, Nat.mul_one, Nat.add_zero]
            exact q1
  have hvs' : dvl [e0] ρ' [.arg 0, .int .u64 (.var 100)] = some vs := by
    rw [← hvs]
    simp only [dvl, dv, den, hvk, h1]
    rfl
  refine (hs (· < w.heap.size) w [e0] ρ' w vs v0 _ (fun j hj hj2 => ?_) hvs' hM hp0).mono ?_
  · rw [← hF j hj hj2, ← hρ']
    funext l
    show (if j = 0 then _ else ρ.f j l) = _
    rw [if_neg (by omega)]
  · rintro e w' ⟨ex, z, rfl, hz, hM'⟩
    refine ⟨[], z, rfl, ?_, ?_⟩
    · rw [List.append_nil, dv_tx (bp := [e0] ++ ex) ⟨n, k, b, o⟩ cap v0 hok0, hρ']
      exact hz
    · rw [List.append_nil]
      exact hm.after hM'.keep
def findF (f : FuncId) : List (FuncId × Out) → Option Out
  | [] => none
  | (g, o) :: r => if Nat.beq g f = true then some o else findF f r
theorem findF_mem {f : FuncId} {o : Out} : ∀ {l : List (FuncId × Out)}, findF f l = some o → (f, o) ∈ l
  | [], h => by cases h
  | (g, o') :: r, h => by
    simp only [findF] at h
    split at h
    · rename_i hg; cases h; rw [Nat.eq_of_beq_eq_true hg]; exact List.mem_cons_self ..
    · exact List.mem_cons_of_mem _ (findF_mem h)
def xsA (cs : Nat × Nat × Nat × Nat) (l : List (FuncId × Out)) (f : FuncId) (a : List AV) (m : List AObj) : Option Out :=
  match a with
  | [.xslice (.app jb (.cons i .nil)) (.app jo (.cons i1 .nil)) (.app jn (.cons i2 .nil)) (.app jc (.cons i3 .nil)), .int .u64 k] =>
    if (Nat.beq jb cs.1 && Nat.beq jo cs.2.1 && Nat.beq jn cs.2.2.1 && Nat.beq jc cs.2.2.2 && beqS i i1 && beqS i i2 && beqS i i3) = true then
      (findF f l).map fun out => out.tx ⟨.app jn (.cons i .nil), k, .app jb (.cons i .nil), .app jo (.cons i .nil)⟩ m
    else none
  | _ => none
theorem xsA_sound {F : Nat → List Int → Int} {cs : Nat × Nat × Nat × Nat} {l : List (FuncId × Out)} {u8 : TypeId} (hl : ∀ p ∈ l, SumOk P F p.1 ⟨[.arg 0, .int .u64 (.var 100)], [.sym (.var 0) (.var 1) [.int .u8 0] u8], p.2⟩ ∧ p.2.okx [.sym (.var 0) (.var 1) [.int .u8 0] u8] = true)
    {f : FuncId} {a : List AV} {m mem' : List AObj} {out : Out} {vs : List Value} {v : AV} (h : xsA cs l f a m = some out) (hF : ∀ j, 100 ≤ j → j < 200 → ρ.f j = F j)
    (hN : ∀ i : Int, XOk (ρ.f 202) S w0 (ρ.f cs.1 [i]) (ρ.f cs.2.1 [i]) (ρ.f cs.2.2.1 [i]) (ρ.f cs.2.2.2 [i])) (hvs : dvl bs ρ a = some vs) (hm : RelM bs ρ S w0 m w) (hp : out.pick ρ = some (v, mem')) : Comes P S w0 bs ρ f vs w v mem' := by
  unfold xsA at h
  split at h
  · rename_i jb i jo i1 jn i2 jc i3 k
    split at h
    · rename_i hc
      simp only [Bool.and_eq_true] at hc
      obtain ⟨⟨⟨⟨⟨⟨c1, c2⟩, c3⟩, c4⟩, c5⟩, c6⟩, c7⟩ := hc
      obtain rfl := beqS_eq c5
      obtain rfl := beqS_eq c6
      obtain rfl := beqS_eq c7
      simp only [Option.map_eq_some_iff] at h
      obtain ⟨o, ho, rfl⟩ := h
      obtain ⟨h1, h2⟩ := hl _ (findF_mem ho)
      have hx := hN (den ρ i)
      rw [← Nat.eq_of_beq_eq_true c1, ← Nat.eq_of_beq_eq_true c2, ← Nat.eq_of_beq_eq_true c3, ← Nat.eq_of_beq_eq_true c4] at hx
      exact tx_sound (n := .app jn (.cons i .nil)) (k := k) (b := .app jb (.cons i .nil)) (o := .app jo (.cons i .nil)) (c := .app jc (.cons i .nil)) h1 h2 hF hx hvs hm hp
    · cases h
  · cases h
end Go.SX
