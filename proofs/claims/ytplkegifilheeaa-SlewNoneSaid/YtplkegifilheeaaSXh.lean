/- Symbolic execution of the model's code, part 8: the executor. -/
import Derived.Test.YtplkegifilheeaaSXg
import Derived.Test.YtplkegifilheeaaSXr
import Derived.LoopN
import Derived.Scope
namespace Go.SX
open Go.Proofs.YtplkegifilheeaaW.PrintLast

inductive AExit where
  | normal
  | exit (id : Nat)
  | ret
  deriving DecidableEq

def AExit.conc : AExit → Exit
  | .normal => .normal
  | .exit id => .exit id
  | .ret => .ret

inductive Task where
  | code (c : Code)
  | rounds (c : Code)
  | ops (ops : Array Oper) (l : List Nat)
  | draw (ops : Array Oper) (ds : List Nat) (m0 m1 : List AObj) (kS : Bool) (listed : Array Bool) (n : Nat)
  | oper (ops : Array Oper) (i : Nat)

/-- A loop that is not unrolled: the first region of its body; what its head holds in place of what it is met with (nothing is known; or a value with letters of its own); the measure. -/
structure LoopSpec where
  key : Nat
  slots : List (Nat × Option AV)
  cells : List (Nat × Nat × AV)
  meas : SE
  facts : List (SE × Bool) := []

structure Cfg where
  /-- the functions that may be entered -/
  ok : List FuncId
  /-- the functions that are known by a contract: what a call comes to -/
  sums : FuncId → List AV → Option AV
  loops : List LoopSpec

def updS (slots : List (Option AV)) (dst : Option Tmp) (v : AV) : List (Option AV) :=
  match dst with
  | some d => slots.set d (some v)
  | none => slots
def ASt.put (st : ASt) (dst : Option Tmp) (v : AV) : ASt := { st with slots := updS st.slots dst v }

/-- A comparison with a number, as a bound: (true: from below). -/
def bndT (c : SE) : Option (SE × Bool × Int) :=
  match c with
  | .cmp .leq (.lit x) e => some (e, true, x)
  | .cmp .lss (.lit x) e => some (e, true, x + 1)
  | .cmp .leq e (.lit x) => some (e, false, x)
  | .cmp .lss e (.lit x) => some (e, false, x - 1)
  | _ => none
def bndF (c : SE) : Option (SE × Bool × Int) :=
  match c with
  | .cmp .leq (.lit x) e => some (e, false, x - 1)
  | .cmp .lss (.lit x) e => some (e, false, x)
  | .cmp .leq e (.lit x) => some (e, true, x + 1)
  | .cmp .lss e (.lit x) => some (e, true, x)
  | _ => none
theorem bndT_iff {ρ : Env} {c e : SE} {lo : Bool} {x : Int} (h : bndT c = some (e, lo, x)) : evB ρ c = true ↔ (if lo = true then x ≤ den ρ e else den ρ e ≤ x) := by
  have h0 : ∀ b : Bool, (ofB b != 0) = b := fun b => by cases b <;> rfl
  unfold bndT at h
  split at h <;> first | (cases h; done) | skip
  all_goals (
    cases h
    simp only [evB, den, h0, cmpI, if_true, Bool.false_eq_true, if_false])
  all_goals exact ⟨fun h => by have := of_decide_eq_true h; omega, fun h => decide_eq_true (by omega)⟩
theorem bndF_iff {ρ : Env} {c e : SE} {lo : Bool} {x : Int} (h : bndF c = some (e, lo, x)) : evB ρ c = false ↔ (if lo = true then x ≤ den ρ e else den ρ e ≤ x) := by
  have h0 : ∀ b : Bool, (ofB b != 0) = b := fun b => by cases b <;> rfl
  unfold bndF at h
  split at h <;> first | (cases h; done) | skip
  all_goals (
    cases h
    simp only [evB, den, h0, cmpI, if_true, Bool.false_eq_true, if_false])
  all_goals exact ⟨fun h => by have := of_decide_eq_false h; omega, fun h => decide_eq_false (by omega)⟩
/-- What one truth says of another comparison. -/
def impB (d : SE) (b : Bool) (c : SE) : Option Bool :=
  match (if b then bndT d else bndF d), bndT c with
  | some (e, lo, x), some (e', lo', y) =>
    if beqS e e' = true then
      match lo, lo' with
      | true, true => if y ≤ x then some true else none
      | true, false => if y < x then some false else none
      | false, true => if x < y then some false else none
      | false, false => if x ≤ y then some true else none
    else none
  | _, _ => none

def findPc (c : SE) : List (SE × Bool) → Option Bool
  | [] => none
  | (d, b) :: r => if beqS d c = true then some b else if beqS d (mkNot c) = true then some (!b) else match impB d b c with
    | some t => some t
    | none => findPc c r

/-- Both ways, or the one that is known. -/
def mkIte (c : SE) (st : ASt) (k : ASt → Bool → Tree) : Tree :=
  match c with
  | .lit n => k st (n != 0)
  | c => match findPc c st.pc with
    | some b => k st b
    | none => .ite c (k { st with pc := (c, true) :: st.pc } true) (k { st with pc := (c, false) :: st.pc } false)

def mkNeeds : List SE → ASt → (ASt → Tree) → Tree
  | [], st, k => k st
  | c :: r, st, k => match c with
    | .lit n => if n = 0 then .fail 1 else mkNeeds r st k
    | c => match findPc c st.pc with
      | some true => mkNeeds r st k
      | some false => .fail 2
      | none => .need c (mkNeeds r { st with pc := (c, true) :: st.pc } k)

inductive GuardR where
  | yes | no | sym (d : Nat) (e : SE) | bad

/-- What is picked hangs on a truth that is not decided. -/
def pickA (slots : List (Option AV)) (o : Oper) : GuardR :=
  match o.op with
  | .pick (.tmp d) _ _ => match slots[d]? with
    | some (some (.bool (.lit _))) => .yes
    | some (some (.bool e)) => .sym d e
    | _ => .yes
  | _ => .yes

def guardA (ops : Array Oper) (slots : List (Option AV)) (o : Oper) : GuardR :=
  match o.guard with
  | none => pickA slots o
  | some (j, want) => match (ops[j]?).bind (·.dst) with
    | none => .bad
    | some d => match slots[d]? with
      | some (some (.bool (.lit n))) => if (n != 0) = want then pickA slots o else .no
      | some (some (.bool e)) => .sym d e
      | some (some (.tuple .nil)) => .no
      | _ => .bad

/-- The function that a call enters, and its arguments. -/
def callA (ev : Operand → Option AV) (op : Op) : Option (FuncId × List AV) :=
  match op with
  | .call c => match c.callee with
    | .value f => match ev f with
      | some (.fn g cap) => (evs ev c.args.toList).map fun l => (g, l ++ cap.members)
      | _ => none
    | _ => none
  | _ => none

def resA (P : Program) (mem : List AObj) (slots : List (Option AV)) : List ResultVar → Option (List AV)
  | [] => some []
  | .tmp t :: r => match slots[t]? with
    | some (some v) => (resA P mem slots r).map fun l => v :: l
    | _ => none
  | .cell a t :: r => match slots[a]? with
    | some (some (.ptr id off)) => match loadA P mem t (.ptr id off) with
      | some ([], v) => (resA P mem slots r).map fun l => v :: l
      | _ => none
    | _ => none

def resultA (P : Program) (fn : Func) (st : ASt) : Option AV :=
  (resA P st.mem st.slots fn.results.toList).map fun
    | [v] => v
    | l => .tuple (ofList l)

def storesOf (ops : Array Oper) : List Nat :=
  (List.range ops.size).filter fun i => match ops[i]? with
    | some o => match o.op with
      | .store .. => true
      | _ => false
    | none => false

def Code.key : Code → Option Nat
  | .region id _ _ => some id
  | .seq a b => match Code.key a with
    | some k => some k
    | none => Code.key b
  | .block _ c => Code.key c
  | .loop c => Code.key c
  | .scope c => Code.key c
  | .cond _ a b => match Code.key a with
    | some k => some k
    | none => Code.key b
  | _ => none

/-! substitution -/
mutual
def SE.sub (θ : List (Nat × SE)) : SE → SE
  | .var i => subV θ i
  | .bin op k a b => .bin op k (a.sub θ) (b.sub θ)
  | .conv k a => .conv k (a.sub θ)
  | .cmp op a b => .cmp op (a.sub θ) (b.sub θ)
  | .not a => .not (a.sub θ)
  | .and a b => .and (a.sub θ) (b.sub θ)
  | .mx a b => .mx (a.sub θ) (b.sub θ)
  | .mn a b => .mn (a.sub θ) (b.sub θ)
  | .app f a => .app f (a.subL θ)
  | .cons _ _ => .lit 0
  | .lit n => .lit n
  | .nil => .lit 0
def SE.subL (θ : List (Nat × SE)) : SE → SE
  | .cons a b => .cons (a.sub θ) (b.subL θ)
  | _ => .nil
end
def AV.sub (θ : List (Nat × SE)) : AV → AV
  | .int k e => .int k (e.sub θ)
  | .bool e => .bool (e.sub θ)
  | .sptr id i s o => .sptr id (i.sub θ) s o
  | .slice id o n c => .slice id o (n.sub θ) (c.sub θ)
  | .row id o n s => .row id o (n.sub θ) s
  | .bstr l => .bstr (l.subL θ)
  | .fn f c => .fn f (c.sub θ)
  | .fnx f c => .fnx f (c.sub θ)
  | .iface t v => .iface t (v.sub θ)
  | .agg l => .agg (l.sub θ)
  | .tuple l => .tuple (l.sub θ)
  | .cons a b => .cons (a.sub θ) (b.sub θ)
  | v => v

/-- Does it name blocks below n alone? -/
def AV.lowB (n : Nat) : AV → Bool
  | .ptr id _ | .sptr id _ _ _ | .slice id _ _ _ | .arg id | .row id _ _ _ => id < n
  | .fn _ c => c.lowB n
  | .fnx _ c => c.lowB n
  | .iface _ v => v.lowB n
  | .agg l => l.lowB n
  | .tuple l => l.lowB n
  | .cons a b => a.lowB n && b.lowB n
  | _ => true

def subObj (θ : List (Nat × SE)) : AObj → AObj
  | .cells c ty own g => .cells (c.map (AV.sub θ)) ty own g
  | .sym n cap row ty => .sym (n.sub θ) (cap.sub θ) row ty
  | .dead => .dead
def belowObj (n : Nat) : AObj → Bool
  | .cells c _ _ _ => c.all (AV.lowB n)
  | _ => true

/-- The head's state: what the loop is met with, turned as its row says. -/
def setSlots (slots : List (Option AV)) : List (Nat × Option AV) → List (Option AV)
  | [] => slots
  | (i, v) :: r => setSlots (slots.set i v) r
def setCells (mem : List AObj) : List (Nat × Nat × AV) → List AObj
  | [] => mem
  | (id, j, v) :: r => setCells (match mem[id]? with
    | some (.cells c ty own g) => mem.set id (.cells (c.set j v) ty own g)
    | _ => mem) r
def headOf (sp : LoopSpec) (st : ASt) : ASt := { slots := setSlots st.slots sp.slots, mem := setCells st.mem sp.cells, pc := sp.facts }

/-- What the letters of a head stand for in a state. -/
def bindAV (pat v : AV) : List (Nat × SE) :=
  match pat, v with
  | .int _ (.var p), .int _ e => [(p, e)]
  | .bool (.var p), .bool e => [(p, e)]
  | .slice _ _ (.var p) _, .slice _ _ e _ => [(p, e)]
  | _, _ => []
def bindSlots (slots : List (Option AV)) : List (Nat × Option AV) → List (Nat × SE)
  | [] => []
  | (i, some pat) :: r => match slots[i]? with
    | some (some v) => bindAV pat v ++ bindSlots slots r
    | _ => bindSlots slots r
  | (_, none) :: r => bindSlots slots r
def bindCells (mem : List AObj) : List (Nat × Nat × AV) → List (Nat × SE)
  | [] => []
  | (id, j, pat) :: r => match mem[id]? with
    | some (.cells c _ _ _) => match c[j]? with
      | some v => bindAV pat v ++ bindCells mem r
      | none => bindCells mem r
    | _ => bindCells mem r

def fitSlots (θ : List (Nat × SE)) (n : Nat) : List (Option AV) → List (Option AV) → Bool
  | [], [] => true
  | none :: r, _ :: s => fitSlots θ n r s
  | some p :: r, some v :: s => beqA (p.sub θ) v && p.lowB n && fitSlots θ n r s
  | _, _ => false
def fitMem (θ : List (Nat × SE)) (n : Nat) : List AObj → List AObj → Bool
  | [], _ => true
  | p :: r, o :: s => beqO (subObj θ p) o && belowObj n p && fitMem θ n r s
  | _, _ => false
def fit (θ : List (Nat × SE)) (h st : ASt) : Bool := fitSlots θ h.mem.length h.slots st.slots && fitMem θ h.mem.length h.mem st.mem

def bindAll (sp : LoopSpec) (st : ASt) : List (Nat × SE) :=
  let θ := bindSlots st.slots sp.slots ++ bindCells st.mem sp.cells
  (1000 + sp.key, sp.meas.sub θ) :: θ

/-- Letters of a head are below 1000; the measure's is the first row. -/
def lowKeys : List (Nat × SE) → Bool
  | [] => false
  | _ :: r => r.all fun p => p.1 < 1000

/-- The head's facts, of what its letters stand for, one after the other. -/
def mkFacts (θ : List (Nat × SE)) (k : Tree) : List (SE × Bool) → Tree
  | [] => k
  | (c, true) :: r => .need (c.sub θ) (mkFacts θ k r)
  | (c, false) :: r => .need (.not (c.sub θ)) (mkFacts θ k r)

def findLoop (key : Nat) : List LoopSpec → Option LoopSpec
  | [] => none
  | sp :: r => if sp.key = key then some sp else findLoop key r

/-- An operation that may be taken first, with its value and what must hold. -/
inductive Early where
  | no
  | take (i : Nat) (dst : Option Tmp) (reqs : List SE) (v : AV) (listed : Array Bool)
  | split (d : Nat) (e : SE)

/-- Of 'm1' (some of it struck) nothing has turned. -/
def keptM : List AObj → List AObj → Bool
  | [], _ => true
  | .dead :: r, _ :: s => keptM r s
  | o :: r, p :: s => beqO o p && keptM r s
  | _ :: _, [] => false

def tryEarly (P : Program) (st : ASt) (ops : Array Oper) (ds : List Nat) (m0 m1 : List AObj) (kS : Bool) (listed : Array Bool) (i : Nat) : Early :=
  match ops[i]? with
  | none => .no
  | some o => match guardA ops st.slots o with
    | .bad => .no
    | .sym d e => .split d e
    | .no => if anyB .any ops listed (listed.setIfInBounds i true) i then .take i o.dst [] (.tuple .nil) (listed.setIfInBounds i true) else .no
    | .yes => match pureA P m1 (opd st.slots) o.op with
      | some (reqs, v) => if anyB .any ops listed (listed.setIfInBounds i true) i then .take i o.dst reqs v (listed.setIfInBounds i true) else .no
      | none => if kS = true then match pureA P m0 (opd st.slots) o.op with
          | some (reqs, v) => if takeB .any ops ds listed (listed.setIfInBounds i true) i then .take i o.dst reqs v (listed.setIfInBounds i true) else .no
          | none => .no
        else .no
def findEarly (P : Program) (st : ASt) (ops : Array Oper) (ds : List Nat) (m0 m1 : List AObj) (kS : Bool) (listed : Array Bool) : List Nat → Early
  | [] => .no
  | i :: r => match tryEarly P st ops ds m0 m1 kS listed i with
    | .no => findEarly P st ops ds m0 m1 kS listed r
    | e => e

/-- Which blocks a region writes to, as far as a look in the text's order tells (a guess: nothing hangs on it). -/
def guessS (P : Program) (mem : List AObj) : List Oper → List (Option AV) → List Nat
  | [], _ => []
  | o :: r, slots =>
    let here : List Nat := match o.op with
      | .store _ a _ => match opd slots a with
        | some (.ptr id _) => [id]
        | _ => []
      | _ => []
    let v : Option AV := match pureA P mem (opd slots) o.op with
      | some (_, v) => some v
      | none => none
    here ++ guessS P mem r (match o.dst with
      | some d => slots.set d v
      | none => slots)
def strike (mem : List AObj) (ids : List Nat) : List AObj := mem.zipIdx.map fun (o, i) => if ids.contains i then .dead else o

def allOf (f : Nat → Tree) : List Nat → Tree
  | [] => .fail 3
  | [i] => f i
  | i :: r => .both (f i) (allOf f r)

def boolOf : Option AV → Option SE
  | some (.bool e) => some e
  | _ => none

theorem boolOf_some {x : Option AV} {e : SE} (h : boolOf x = some e) : x = some (.bool e) := by
  unfold boolOf at h
  split at h
  · cases h; rfl
  · cases h

def run (P : Program) (cfg : Cfg) : Nat → Option (List Nat) → Task → ASt → (AExit → ASt → Tree) → Tree
  | 0, _, _, _, _ => .fail 0
  | n + 1, top, .code c, st, K => match c with
    | .skip | .label _ => K .normal st
    | .ret => K .ret st
    | .exit id => K (.exit id) st
    | .seq a b => run P cfg n top (.code a) st fun ex st' => match ex with
      | .normal => run P cfg n top (.code b) st' K
      | ex => K ex st'
    | .block id c => run P cfg n top (.code c) st fun ex st' => match ex with
      | .exit id' => if id' = id then K .normal st' else K (.exit id') st'
      | ex => K ex st'
    | .cond c a b => match boolOf (opd st.slots c) with
      | some e => mkIte e st fun st' t => run P cfg n top (.code (if t then a else b)) st' K
      | none => .fail 4
    | .scope c => run P cfg n top (.code c) st K
    | .region _ ops false => run P cfg n none (.ops ops (List.range ops.size)) st K
    | .region _ ops true => run P cfg n none (.draw ops (storesOf ops) st.mem (strike st.mem (guessS P st.mem ops.toList st.slots)) true (Array.replicate ops.size false) ops.size) st K
    | .loop c =>
      match top.bind fun ks => ((Code.key c).bind fun k => findLoop k cfg.loops).bind fun sp => if ks.contains sp.key then none else some (ks, sp) with
      | some (ks, sp) =>
        let h := headOf sp st
        let θ := bindAll sp st
        if fit θ h st && lowKeys θ then
          mkFacts θ (.loop sp.key θ (run P cfg n (some (sp.key :: ks)) (.code c) h fun ex st' => match ex with
            | .normal =>
              let θ' := bindAll sp st'
              if fit θ' h st' && lowKeys θ' then mkFacts θ' (.again sp.key θ') h.pc else .fail 6
            | ex => K ex st')) h.pc
        else .fail 5
      | none => run P cfg n top (.rounds c) st K
    | _ => .fail 7
  | n + 1, top, .rounds c, st, K => run P cfg n top (.code c) st fun ex st' => match ex with
      | .normal => run P cfg n top (.rounds c) st' K
      | ex => K ex st'
  | n + 1, _, .ops ops l, st, K => match l with
    | [] => K .normal st
    | i :: r => run P cfg n none (.oper ops i) st fun ex st' => match ex with
      | .normal => run P cfg n none (.ops ops r) st' K
      | _ => .fail 8
  | n + 1, _, .draw ops ds m0 m1 kS listed m, st, K =>
    match Region.ready .any ops listed with
    | [] => K .normal st
    | rs => match m with
      | 0 => .fail 9
      | m + 1 => match findEarly P st ops ds m0 m1 kS listed rs with
        | .take _ dst reqs v listed' => mkNeeds reqs st fun st' => run P cfg n none (.draw ops ds m0 m1 kS listed' m) (st'.put dst v) K
        | .split d e => mkIte e st fun st' b => run P cfg n none (.draw ops ds m0 m1 kS listed (m + 1)) (st'.put (some d) (.bool (.lit (ofB b)))) K
        | .no => allOf (fun i => run P cfg n none (.oper ops i) st fun ex st' => match ex with
            | .normal => if keptM m1 st'.mem && (ds.contains i || keptM m0 st'.mem) then run P cfg n none (.draw ops ds m0 m1 (keptM m0 st'.mem) (listed.setIfInBounds i true) m) st' K else .fail 10
            | _ => .fail 11) rs
  | n + 1, _, .oper ops i, st, K => match ops[i]? with
    | none => .fail 12
    | some o => match guardA ops st.slots o with
      | .bad => .fail 13
      | .no => K .normal (st.put o.dst (.tuple .nil))
      | .sym d e => mkIte e st fun st' b => run P cfg n none (.oper ops i) (st'.put (some d) (.bool (.lit (ofB b)))) K
      | .yes => match pureA P st.mem (opd st.slots) o.op with
        | some (reqs, v) => mkNeeds reqs st fun st' => K .normal (st'.put o.dst v)
        | none => match effA P st.mem (opd st.slots) o.op with
          | some (_, v, mem') => K .normal { (st.put o.dst v) with mem := mem' }
          | none => match callA (opd st.slots) o.op with
            | none => .fail (i * 100 + 14)
            | some (f, args) => if cfg.ok.contains f = false then .fail (1000 + f) else
              match cfg.sums f args with
              | some v => K .normal (st.put o.dst v)
              | none => match P.funcs[f]? with
                | none => .fail 15
                | some fn => match fn.body with
                  | none => .fail 16
                  | some c => if fn.ntmps < args.length then .fail 17 else
                    run P cfg n none (.code c) { slots := args.map some ++ List.replicate (fn.ntmps - args.length) (some (.tuple .nil)), mem := st.mem, pc := st.pc } fun ex st' =>
                      match ex with
                      | .exit _ => .fail 18
                      | _ => match resultA P fn st' with
                        | some v => K .normal { slots := updS st.slots o.dst v, mem := st'.mem, pc := st'.pc }
                        | none => .fail 19

end Go.SX
