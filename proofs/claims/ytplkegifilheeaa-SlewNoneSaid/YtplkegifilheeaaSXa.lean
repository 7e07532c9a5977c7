/- Symbolic execution of the model's code, part 1: expressions, abstract values, abstract memory, and what they stand for. Plain definitions; no program in sight. -/
import Derived.Below
namespace Go.SX

/-- An expression over variables: it stands for an integer (a truth value: not 0). -/
inductive SE where
  | lit (n : Int)
  | var (i : Nat)
  | bin (op : BinOp) (k : IntKind) (a b : SE)
  | conv (k : IntKind) (a : SE)
  | cmp (op : BinOp) (a b : SE)
  | not (a : SE)
  | and (a b : SE)
  | mx (a b : SE)
  | mn (a b : SE)
  | app (f : Nat) (a : SE)
  | nil
  | cons (a b : SE)
  deriving DecidableEq, Inhabited

/-- The same expression? (Quick to compute.) -/
def beqS : SE → SE → Bool
  | .lit a, .lit b => decide (a = b)
  | .var i, .var j => Nat.beq i j
  | .bin op k a b, .bin op' k' a' b' => beqS a a' && beqS b b' && decide (op = op') && decide (k = k')
  | .conv k a, .conv k' a' => beqS a a' && decide (k = k')
  | .cmp op a b, .cmp op' a' b' => beqS a a' && beqS b b' && decide (op = op')
  | .not a, .not a' => beqS a a'
  | .and a b, .and a' b' => beqS a a' && beqS b b'
  | .mx a b, .mx a' b' => beqS a a' && beqS b b'
  | .mn a b, .mn a' b' => beqS a a' && beqS b b'
  | .app f a, .app f' a' => Nat.beq f f' && beqS a a'
  | .nil, .nil => true
  | .cons a b, .cons a' b' => beqS a a' && beqS b b'
  | _, _ => false
theorem beqS_eq : ∀ {a b : SE}, beqS a b = true → a = b := by
  intro a
  induction a with
  | lit n => intro b h; cases b <;> simp_all [beqS]
  | var i => intro b h; cases b <;> simp_all [beqS]
  | bin op k x y ih1 ih2 => intro b h; cases b <;> simp only [beqS, Bool.and_eq_true, decide_eq_true_eq] at h <;> first | (cases h; done) | (obtain ⟨⟨⟨h1, h2⟩, h3⟩, h4⟩ := h; rw [ih1 h1, ih2 h2, h3, h4])
  | conv k x ih => intro b h; cases b <;> simp only [beqS, Bool.and_eq_true, decide_eq_true_eq] at h <;> first | (cases h; done) | (rw [ih h.1, h.2])
  | cmp op x y ih1 ih2 => intro b h; cases b <;> simp only [beqS, Bool.and_eq_true, decide_eq_true_eq] at h <;> first | (cases h; done) | (obtain ⟨⟨h1, h2⟩, h3⟩ := h; rw [ih1 h1, ih2 h2, h3])
  | not x ih => intro b h; cases b <;> simp only [beqS] at h <;> first | (cases h; done) | (rw [ih h])
  | and x y ih1 ih2 => intro b h; cases b <;> simp only [beqS, Bool.and_eq_true] at h <;> first | (cases h; done) | (rw [ih1 h.1, ih2 h.2])
  | mx x y ih1 ih2 => intro b h; cases b <;> simp only [beqS, Bool.and_eq_true] at h <;> first | (cases h; done) | (rw [ih1 h.1, ih2 h.2])
  | mn x y ih1 ih2 => intro b h; cases b <;> simp only [beqS, Bool.and_eq_true] at h <;> first | (cases h; done) | (rw [ih1 h.1, ih2 h.2])
  | app f x ih => intro b h; cases b <;> simp only [beqS, Bool.and_eq_true] at h <;> first | (cases h; done) | (rw [Nat.eq_of_beq_eq_true h.1, ih h.2])
  | nil => intro b h; cases b <;> simp only [beqS] at h <;> first | (cases h; done) | rfl
  | cons x y ih1 ih2 => intro b h; cases b <;> simp only [beqS, Bool.and_eq_true] at h <;> first | (cases h; done) | (rw [ih1 h.1, ih2 h.2])

/-- What the variables and the function letters stand for. -/
structure Env where
  v : Nat → Int
  f : Nat → List Int → Int

def binI (op : BinOp) (k : IntKind) (x y : Int) : Int :=
  match op with
  | .add => k.wrap (x + y)
  | .sub => k.wrap (x - y)
  | .mul => k.wrap (x * y)
  | .quo => k.wrap (x.tdiv y)
  | .rem => x.tmod y
  | .and => k.wrap ((BitVec.ofInt k.bits x &&& BitVec.ofInt k.bits y).toNat : Nat)
  | .or => k.wrap ((BitVec.ofInt k.bits x ||| BitVec.ofInt k.bits y).toNat : Nat)
  | .xor => k.wrap ((BitVec.ofInt k.bits x ^^^ BitVec.ofInt k.bits y).toNat : Nat)
  | .andNot => k.wrap ((BitVec.ofInt k.bits x &&& ~~~BitVec.ofInt k.bits y).toNat : Nat)
  | .shl => k.wrap (x * 2 ^ (min y.toNat k.bits))
  | .shr => x.fdiv (2 ^ (min y.toNat k.bits))
  | _ => 0

def cmpI (op : BinOp) (x y : Int) : Bool :=
  match op with
  | .eql => x == y
  | .neq => x != y
  | .lss => decide (x < y)
  | .leq => decide (x ≤ y)
  | .gtr => decide (x > y)
  | .geq => decide (x ≥ y)
  | _ => false

def ofB (b : Bool) : Int := if b then 1 else 0

mutual
def den (ρ : Env) : SE → Int
  | .lit n => n
  | .var i => ρ.v i
  | .bin op k a b => binI op k (den ρ a) (den ρ b)
  | .conv k a => k.wrap (den ρ a)
  | .cmp op a b => ofB (cmpI op (den ρ a) (den ρ b))
  | .not a => ofB (den ρ a == 0)
  | .and a b => ofB (den ρ a != 0 && den ρ b != 0)
  | .mx a b => if den ρ b > den ρ a then den ρ b else den ρ a
  | .mn a b => if den ρ b < den ρ a then den ρ b else den ρ a
  | .app f a => ρ.f f (dens ρ a)
  | .nil => 0
  | .cons _ _ => 0
def dens (ρ : Env) : SE → List Int
  | .cons a b => den ρ a :: dens ρ b
  | _ => []
end

/-- The truth of an expression. -/
def evB (ρ : Env) (e : SE) : Bool := den ρ e != 0

/-! Expressions that are numbers already are computed; comparisons have one shape. -/
def mkBin (op : BinOp) (k : IntKind) : SE → SE → SE
  | .lit x, .lit y => .lit (binI op k x y)
  | a, b => .bin op k a b
def mkConv (k : IntKind) : SE → SE
  | .lit x => .lit (k.wrap x)
  | a => .conv k a
def mkMx : SE → SE → SE
  | .lit x, .lit y => .lit (if y > x then y else x)
  | a, b => .mx a b
def mkMn : SE → SE → SE
  | .lit x, .lit y => .lit (if y < x then y else x)
  | a, b => .mn a b
def cmp0 (op : BinOp) : SE → SE → SE
  | .lit x, .lit y => .lit (ofB (cmpI op x y))
  | a, b => if beqS a b = true then .lit (ofB (cmpI op 0 0)) else .cmp op a b
def mkCmp (op : BinOp) (a b : SE) : SE :=
  match op with
  | .gtr => cmp0 .lss b a
  | .geq => cmp0 .leq b a
  | op => cmp0 op a b
def mkNot : SE → SE
  | .lit n => .lit (ofB (n == 0))
  | .cmp .eql a b => .cmp .neq a b
  | .cmp .neq a b => .cmp .eql a b
  | .cmp .lss a b => .cmp .leq b a
  | .cmp .leq a b => .cmp .lss b a
  | .not (.not a) => .not a
  | a => .not a

def mkAnd : SE → SE → SE
  | .lit n, b => if n = 0 then .lit 0 else b
  | a, .lit n => if n = 0 then .lit 0 else a
  | a, b => .and a b

/-- An abstract value. A block is named by its number in the abstract memory. -/
inductive AV where
  | int (k : IntKind) (e : SE)
  | bool (e : SE)
  | str (s : ByteArray)
  | ptr (id off : Nat)
  | sptr (id : Nat) (i : SE) (size off : Nat)
  | nilptr
  | gptr (g : Nat)
  | slice (id off : Nat) (len cap : SE)
  | arg (id : Nat)
  | row (id off : Nat) (len : SE) (skip : Nat)
  | nilslice
  | bstr (l : SE)
  | fn (f : FuncId) (cap : AV)
  | fnx (f : Fn) (first : AV)
  | nilFunc
  | iface (t : TypeId) (v : AV)
  | nilIface
  | agg (l : AV)
  | tuple (l : AV)
  | nil
  | cons (a b : AV)
  deriving DecidableEq, Inhabited

def beqA : AV → AV → Bool
  | .int k e, .int k' e' => beqS e e' && decide (k = k')
  | .bool e, .bool e' => beqS e e'
  | .str s, .str s' => decide (s = s')
  | .ptr i o, .ptr i' o' => Nat.beq i i' && Nat.beq o o'
  | .sptr i e s o, .sptr i' e' s' o' => Nat.beq i i' && beqS e e' && Nat.beq s s' && Nat.beq o o'
  | .nilptr, .nilptr => true
  | .gptr g, .gptr g' => Nat.beq g g'
  | .slice i o n c, .slice i' o' n' c' => Nat.beq i i' && Nat.beq o o' && beqS n n' && beqS c c'
  | .arg i, .arg i' => Nat.beq i i'
  | .row i o n c, .row i' o' n' c' => Nat.beq i i' && Nat.beq o o' && beqS n n' && Nat.beq c c'
  | .nilslice, .nilslice => true
  | .bstr l, .bstr l' => beqS l l'
  | .fn f c, .fn f' c' => Nat.beq f f' && beqA c c'
  | .fnx f c, .fnx f' c' => decide (f = f') && beqA c c'
  | .nilFunc, .nilFunc => true
  | .iface t v, .iface t' v' => Nat.beq t t' && beqA v v'
  | .nilIface, .nilIface => true
  | .agg l, .agg l' => beqA l l'
  | .tuple l, .tuple l' => beqA l l'
  | .nil, .nil => true
  | .cons a b, .cons a' b' => beqA a a' && beqA b b'
  | _, _ => false
theorem beqA_eq : ∀ {a b : AV}, beqA a b = true → a = b := by
  intro a
  induction a with
  | fn f c ih => intro b h; cases b <;> simp only [beqA, Bool.and_eq_true] at h <;> first | (cases h; done) | (rw [Nat.eq_of_beq_eq_true h.1, ih h.2])
  | fnx f c ih => intro b h; cases b <;> simp only [beqA, Bool.and_eq_true, decide_eq_true_eq] at h <;> first | (cases h; done) | (rw [h.1, ih h.2])
  | iface t v ih => intro b h; cases b <;> simp only [beqA, Bool.and_eq_true] at h <;> first | (cases h; done) | (rw [Nat.eq_of_beq_eq_true h.1, ih h.2])
  | agg l ih => intro b h; cases b <;> simp only [beqA] at h <;> first | (cases h; done) | (rw [ih h])
  | tuple l ih => intro b h; cases b <;> simp only [beqA] at h <;> first | (cases h; done) | (rw [ih h])
  | cons x y ih1 ih2 => intro b h; cases b <;> simp only [beqA, Bool.and_eq_true] at h <;> first | (cases h; done) | (rw [ih1 h.1, ih2 h.2])
  | _ =>
    intro b h
    cases b <;> simp only [beqA, Bool.and_eq_true, decide_eq_true_eq] at h <;> first
      | (cases h; done)
      | rfl
      | (rw [beqS_eq h])
      | (rw [h])
      | (rw [Nat.eq_of_beq_eq_true h])
      | (rw [beqS_eq h.1, h.2])
      | (rw [Nat.eq_of_beq_eq_true h.1, Nat.eq_of_beq_eq_true h.2])
      | (obtain ⟨⟨⟨h1, h2⟩, h3⟩, h4⟩ := h
         first
           | rw [Nat.eq_of_beq_eq_true h1, beqS_eq h2, Nat.eq_of_beq_eq_true h3, Nat.eq_of_beq_eq_true h4]
           | rw [Nat.eq_of_beq_eq_true h1, Nat.eq_of_beq_eq_true h2, beqS_eq h3, beqS_eq h4]
           | rw [Nat.eq_of_beq_eq_true h1, Nat.eq_of_beq_eq_true h2, beqS_eq h3, Nat.eq_of_beq_eq_true h4])

/-- What a number of the abstract memory stands for: a block, and how many elements its slices may take. -/
structure Ent where
  blk : Nat
  cap : Nat
  base : Nat := 0
  addr : Option Addr := none
  len : Nat := 0

/-- A number of its kind. -/
def inR (k : IntKind) (n : Int) : Bool := decide (k.min ≤ n ∧ n ≤ k.max)

mutual
def dv (bs : List Ent) (ρ : Env) : AV → Option Value
  | .int k e => if inR k (den ρ e) = true then some (.int k (den ρ e)) else none
  | .bool e => some (.bool (evB ρ e))
  | .str s => some (.string s)
  | .ptr id off => (bs[id]?).map fun b => .pointer (some ⟨b.blk, b.base + off, none⟩)
  | .sptr id i size off => (bs[id]?).map fun b => .pointer (some ⟨b.blk, b.base + ((den ρ i).toNat * size + off), none⟩)
  | .nilptr => some (.pointer none)
  | .gptr g => some (.pointer (some ⟨g, 0, none⟩))
  | .slice id off len cap => (bs[id]?).map fun b => .slice (some ⟨b.blk, b.base + off, none⟩) (den ρ len).toNat (den ρ cap).toNat
  | .arg id => (bs[id]?).map fun b => .slice b.addr b.len b.cap
  | .row id off len skip => (bs[id]?).map fun b => .slice (some ⟨b.blk, b.base + off, none⟩) (den ρ len).toNat (b.cap - skip)
  | .nilslice => some (.slice none 0 0)
  | .bstr l => if (dens ρ l).all (inR .u8) = true then some (.string ⟨((dens ρ l).map fun n => n.toNat.toUInt8).toArray⟩) else none
  | .fn f c => (dvs bs ρ c).map fun vs => .func (.func f) #[] vs.toArray
  | .fnx f c => (dvs bs ρ c).map fun vs => .func f vs.toArray #[]
  | .nilFunc => some .nilFunc
  | .iface t v => (dv bs ρ v).map fun x => .iface t x
  | .nilIface => some .nilIface
  | .agg l => (dvs bs ρ l).map fun vs => .agg vs.toArray
  | .tuple l => (dvs bs ρ l).map fun vs => .tuple vs.toArray
  | .nil => none
  | .cons _ _ => none
def dvs (bs : List Ent) (ρ : Env) : AV → Option (List Value)
  | .nil => some []
  | .cons a b => (dv bs ρ a).bind fun x => (dvs bs ρ b).map fun xs => x :: xs
  | _ => none
end

def ofList : List AV → AV
  | [] => .nil
  | a :: l => .cons a (ofList l)

/-- A chain's members. -/
def AV.members : AV → List AV
  | .cons a b => a :: b.members
  | _ => []

/-- The cells that a value takes. -/
def AV.cells : AV → List AV
  | .agg l => l.members
  | v => [v]

/-- An abstract block: the cells that are known (more may stand behind them), its elements' type; whether it may be written; of a block that 'append' made: the cells of a member. 'sym': a row of unknown length, whose members are the function letters' answers. 'dead': it may be another block by now. -/
inductive AObj where
  | cells (c : List AV) (ty : TypeId) (own : Bool) (grow : Option Nat)
  | sym (n cap : SE) (row : List (IntKind × Nat)) (ty : TypeId)
  | dead
  deriving DecidableEq, Inhabited

def beqL : List AV → List AV → Bool
  | [], [] => true
  | a :: l, b :: m => beqA a b && beqL l m
  | _, _ => false
theorem beqL_eq : ∀ {a b : List AV}, beqL a b = true → a = b
  | [], [], _ => rfl
  | a :: l, b :: m, h => by
    simp only [beqL, Bool.and_eq_true] at h
    rw [beqA_eq h.1, beqL_eq h.2]
  | [], _ :: _, h => by cases h
  | _ :: _, [], h => by cases h
def beqO : AObj → AObj → Bool
  | .cells c ty own g, .cells c' ty' own' g' => beqL c c' && Nat.beq ty ty' && decide (own = own') && decide (g = g')
  | .sym n cap row ty, .sym n' cap' row' ty' => beqS n n' && beqS cap cap' && decide (row = row') && Nat.beq ty ty'
  | .dead, .dead => true
  | _, _ => false
theorem beqO_eq {a b : AObj} (h : beqO a b = true) : a = b := by
  cases a <;> cases b <;> simp only [beqO, Bool.and_eq_true, decide_eq_true_eq] at h <;> first
    | (cases h; done)
    | rfl
    | (obtain ⟨⟨⟨h1, h2⟩, h3⟩, h4⟩ := h
       first
         | rw [beqL_eq h1, Nat.eq_of_beq_eq_true h2, h3, h4]
         | rw [beqS_eq h1, beqS_eq h2, h3, Nat.eq_of_beq_eq_true h4])

structure ASt where
  slots : List (Option AV)
  mem : List AObj
  pc : List (SE × Bool)

inductive Tree where
  | ite (c : SE) (t e : Tree)
  | need (c : SE) (t : Tree)
  | both (a b : Tree)
  | leaf (v : AV) (mem : List AObj)
  | fail (n : Nat)
  | loop (id : Nat) (θ : List (Nat × SE)) (body : Tree)
  | again (id : Nat) (θ : List (Nat × SE))
  deriving DecidableEq, Inhabited

def subV (θ : List (Nat × SE)) (i : Nat) : SE :=
  match θ with
  | [] => .var i
  | (j, e) :: r => if i = j then e else subV r i

def Env.sub (ρ : Env) (θ : List (Nat × SE)) : Env := { ρ with v := fun i => den ρ (subV θ i) }

/-- What is to be shown of a tree. 'I': the loops' invariants, by number. 'L': what is asked of an end. -/
def Tree.holds (I : Nat → Env → Prop) (L : Env → AV → List AObj → Prop) (ρ : Env) : Tree → Prop
  | .ite c t e => (evB ρ c = true → t.holds I L ρ) ∧ (evB ρ c = false → e.holds I L ρ)
  | .need c t => evB ρ c = true ∧ t.holds I L ρ
  | .both a b => a.holds I L ρ ∧ b.holds I L ρ
  | .leaf v m => L ρ v m
  | .fail _ => False
  | .loop id θ body => I id (ρ.sub θ) ∧ ∀ ρ' : Env, ρ'.f = ρ.f → I id ρ' → body.holds I L ρ'
  | .again id θ => I id (ρ.sub θ) ∧ ((ρ.sub θ).v (1000 + id)).toNat < (ρ.v (1000 + id)).toNat

end Go.SX
