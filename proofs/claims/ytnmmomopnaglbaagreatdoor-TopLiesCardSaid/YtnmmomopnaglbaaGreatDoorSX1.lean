/- Symbolic execution of the model's code, 1 of 3 (the parts of wip/sx2 joined by wip/sx2/merge3.py). No conditions. -/
import Derived.Below
import Derived.Laws.Build
import Derived.Laws.Cells
import Derived.Laws.Rows
import Derived.Laws.StructEq
import Derived.Laws.Pointers
import Derived.Laws.BytesString
import Derived.MapKept
import Derived.Laws.CopyRow
import Derived.Laws.Tables
import Derived.Maps.AppendAt
import Derived.Laws.RangeAny
import Derived.Laws.NewFold
/- Symbolic execution of the model's code, part 1: expressions, abstract values, abstract memory, and what they stand for. Plain definitions; no program in sight. -/
namespace Go.SX

/-- An expression over variables: it stands for an integer (a truth value: not 0). -/
inductive SE where
  | lit (n : Int)
  | var (i : Nat)
  | bin (op : BinOp) (k : IntKind) (a b : SE)
  | conv (k : IntKind) (a : SE)
  | cmp (op : BinOp) (a b : SE)
  | not (a : SE)
  | and (a b : SE)
  | mx (a b : SE)
  | mn (a b : SE)
  | app (f : Nat) (a : SE)
  | nil
  | cons (a b : SE)
  deriving DecidableEq, Inhabited

/-- The same expression? (Quick to compute.) -/
def beqS : SE → SE → Bool
  | .lit a, .lit b => decide (a = b)
  | .var i, .var j => Nat.beq i j
  | .bin op k a b, .bin op' k' a' b' => beqS a a' && beqS b b' && decide (op = op') && decide (k = k')
  | .conv k a, .conv k' a' => beqS a a' && decide (k = k')
  | .cmp op a b, .cmp op' a' b' => beqS a a' && beqS b b' && decide (op = op')
  | .not a, .not a' => beqS a a'
  | .and a b, .and a' b' => beqS a a' && beqS b b'
  | .mx a b, .mx a' b' => beqS a a' && beqS b b'
  | .mn a b, .mn a' b' => beqS a a' && beqS b b'
  | .app f a, .app f' a' => Nat.beq f f' && beqS a a'
  | .nil, .nil => true
  | .cons a b, .cons a' b' => beqS a a' && beqS b b'
  | _, _ => false
theorem beqS_eq : ∀ {a b : SE}, beqS a b = true → a = b := by
  intro a
  induction a with
  | lit n => intro b h; cases b <;> simp_all [beqS]
  | var i => intro b h; cases b <;> simp_all [beqS]
  | bin op k x y ih1 ih2 => intro b h; cases b <;> simp only [beqS, Bool.and_eq_true, decide_eq_true_eq] at h <;> first | (cases h; done) | (obtain ⟨⟨⟨h1, h2⟩, h3⟩, h4⟩ := h; rw [ih1 h1, ih2 h2, h3, h4])
  | conv k x ih => intro b h; cases b <;> simp only [beqS, Bool.and_eq_true, decide_eq_true_eq] at h <;> first | (cases h; done) | (rw [ih h.1, h.2])
  | cmp op x y ih1 ih2 => intro b h; cases b <;> simp only [beqS, Bool.and_eq_true, decide_eq_true_eq] at h <;> first | (cases h; done) | (obtain ⟨⟨h1, h2⟩, h3⟩ := h; rw [ih1 h1, ih2 h2, h3])
  | not x ih => intro b h; cases b <;> simp only [beqS] at h <;> first | (cases h; done) | (rw [ih h])
  | and x y ih1 ih2 => intro b h; cases b <;> simp only [beqS, Bool.and_eq_true] at h <;> first | (cases h; done) | (rw [ih1 h.1, ih2 h.2])
  | mx x y ih1 ih2 => intro b h; cases b <;> simp only [beqS, Bool.and_eq_true] at h <;> first | (cases h; done) | (rw [ih1 h.1, ih2 h.2])
  | mn x y ih1 ih2 => intro b h; cases b <;> simp only [beqS, Bool.and_eq_true] at h <;> first | (cases h; done) | (rw [ih1 h.1, ih2 h.2])
  | app f x ih => intro b h; cases b <;> simp only [beqS, Bool.and_eq_true] at h <;> first | (cases h; done) | (rw [Nat.eq_of_beq_eq_true h.1, ih h.2])
  | nil => intro b h; cases b <;> simp only [beqS] at h <;> first | (cases h; done) | rfl
  | cons x y ih1 ih2 => intro b h; cases b <;> simp only [beqS, Bool.and_eq_true] at h <;> first | (cases h; done) | (rw [ih1 h.1, ih2 h.2])

/-- What the variables and the function letters stand for. -/
structure Env where
  v : Nat → Int
  f : Nat → List Int → Int

def binI (op : BinOp) (k : IntKind) (x y : Int) : Int :=
  match op with
  | .add => k.wrap (x + y)
  | .sub => k.wrap (x - y)
  | .mul => k.wrap (x * y)
  | .quo => k.wrap (x.tdiv y)
  | .rem => x.tmod y
  | .and => k.wrap ((BitVec.ofInt k.bits x &&& BitVec.ofInt k.bits y).toNat : Nat)
  | .or => k.wrap ((BitVec.ofInt k.bits x ||| BitVec.ofInt k.bits y).toNat : Nat)
  | .xor => k.wrap ((BitVec.ofInt k.bits x ^^^ BitVec.ofInt k.bits y).toNat : Nat)
  | .andNot => k.wrap ((BitVec.ofInt k.bits x &&& ~~~BitVec.ofInt k.bits y).toNat : Nat)
  | .shl => k.wrap (x * 2 ^ (min y.toNat k.bits))
  | .shr => x.fdiv (2 ^ (min y.toNat k.bits))
  | _ => 0

def cmpI (op : BinOp) (x y : Int) : Bool :=
  match op with
  | .eql => x == y
  | .neq => x != y
  | .lss => decide (x < y)
  | .leq => decide (x ≤ y)
  | .gtr => decide (x > y)
  | .geq => decide (x ≥ y)
  | _ => false

def ofB (b : Bool) : Int := if b then 1 else 0

mutual
def den (ρ : Env) : SE → Int
  | .lit n => n
  | .var i => ρ.v i
  | .bin op k a b => binI op k (den ρ a) (den ρ b)
  | .conv k a => k.wrap (den ρ a)
  | .cmp op a b => ofB (cmpI op (den ρ a) (den ρ b))
  | .not a => ofB (den ρ a == 0)
  | .and a b => ofB (den ρ a != 0 && den ρ b != 0)
  | .mx a b => if den ρ b > den ρ a then den ρ b else den ρ a
  | .mn a b => if den ρ b < den ρ a then den ρ b else den ρ a
  | .app f a => ρ.f f (dens ρ a)
  | .nil => 0
  | .cons _ _ => 0
def dens (ρ : Env) : SE → List Int
  | .cons a b => den ρ a :: dens ρ b
  | _ => []
end

/-- The truth of an expression. -/
def evB (ρ : Env) (e : SE) : Bool := den ρ e != 0

/-! Expressions that are numbers already are computed; comparisons have one shape. -/
/-- Does every number of the one kind lie in the other? -/
def subK : IntKind → IntKind → Bool
  | .u8, .u8 | .u8, .u16 | .u8, .u32 | .u8, .u64 | .u8, .i16 | .u8, .i32 | .u8, .i64 => true
  | .u16, .u16 | .u16, .u32 | .u16, .u64 | .u16, .i32 | .u16, .i64 => true
  | .u32, .u32 | .u32, .u64 | .u32, .i64 => true
  | .u64, .u64 => true
  | .i8, .i8 | .i8, .i16 | .i8, .i32 | .i8, .i64 | .i16, .i16 | .i16, .i32 | .i16, .i64 | .i32, .i32 | .i32, .i64 | .i64, .i64 => true
  | _, _ => false
def narrowK (k k' : IntKind) : Bool := Nat.ble k.bits k'.bits
def wraps : BinOp → Bool
  | .add | .sub | .mul | .quo | .and | .or | .xor | .andNot | .shl => true
  | _ => false
def mkConv (k : IntKind) : SE → SE
  | .lit x => .lit (k.wrap x)
  | .conv k' a => if subK k' k then .conv k' a else if narrowK k k' then .conv k a else .conv k (.conv k' a)
  | .bin op k' a b => if wraps op && decide (k' = k) then .bin op k' a b else .conv k (.bin op k' a b)
  | a => .conv k a
/-- A byte of a number: which, and how many bits it is from the end. -/
def byteS : SE → Option (SE × Int)
  | .conv .u8 (.bin .shr .u64 x (.lit s)) => some (x, s)
  | .conv .u8 x => some (x, 0)
  | _ => none
/-- Bytes of one number, laid behind each other, are a part of the number. -/
def wordB (a : SE) (x : SE) (s : Int) (shl : Bool) : Option SE :=
  match a with
  | .lit n => if n = 0 then (if s = 56 then some (.bin .shr .u64 (mkConv .u64 x) (.lit 56)) else if s = 24 then some (.bin .shr .u64 (mkConv .u32 x) (.lit 24)) else none) else none
  | .bin .shl .u64 (.bin .shr .u64 X (.lit t)) (.lit m) => if shl && decide (m = 8) && decide (t = s + 8) then next X else none
  | .bin .mul .u64 (.lit m) (.bin .shr .u64 X (.lit t)) => if !shl && decide (m = 256) && decide (t = s + 8) then next X else none
  | _ => none
where next (X : SE) : Option SE :=
  if (s = 0 ∨ s = 8 ∨ s = 16 ∨ s = 24 ∨ s = 32 ∨ s = 40 ∨ s = 48) ∧ beqS X (mkConv .u64 x) = true then some (if s = 0 then X else .bin .shr .u64 X (.lit s))
  else if (s = 0 ∨ s = 8 ∨ s = 16) ∧ beqS X (mkConv .u32 x) = true then some (if s = 0 then X else .bin .shr .u64 X (.lit s))
  else none
def wordR (op : BinOp) (k : IntKind) (a b : SE) : Option SE :=
  match op, k with
  | .or, .u64 => (byteS b).bind fun p => wordB a p.1 p.2 true
  | .add, .u64 => (byteS b).bind fun p => wordB a p.1 p.2 false
  | .shr, _ => match b with
    | .lit n => if n = 0 then some a else none
    | _ => none
  | _, _ => none
/-- A number stands behind the other factor. -/
def mulR (op : BinOp) (k : IntKind) (a b : SE) : SE :=
  match op, k, a with
  | .mul, .i64, .lit x => .bin .mul .i64 b (.lit x)
  | op, k, a => .bin op k a b
def mkBin (op : BinOp) (k : IntKind) : SE → SE → SE
  | .lit x, .lit y => .lit (binI op k x y)
  | a, b => match wordR op k a b with
    | some e => e
    | none => mulR op k a b
def mkMx : SE → SE → SE
  | .lit x, .lit y => .lit (if y > x then y else x)
  | a, b => if beqS a b = true then a else .mx a b
def mkMn : SE → SE → SE
  | .lit x, .lit y => .lit (if y < x then y else x)
  | a, b => if beqS a b = true then a else .mn a b
def cmp0 (op : BinOp) : SE → SE → SE
  | .lit x, .lit y => .lit (ofB (cmpI op x y))
  | a, b => if beqS a b = true then .lit (ofB (cmpI op 0 0)) else .cmp op a b
def mkCmp (op : BinOp) (a b : SE) : SE :=
  match op with
  | .gtr => cmp0 .lss b a
  | .geq => cmp0 .leq b a
  | op => cmp0 op a b
def mkNot : SE → SE
  | .lit n => .lit (ofB (n == 0))
  | .cmp .eql a b => .cmp .neq a b
  | .cmp .neq a b => .cmp .eql a b
  | .cmp .lss a b => .cmp .leq b a
  | .cmp .leq a b => .cmp .lss b a
  | .not (.not a) => .not a
  | a => .not a

def mkAnd : SE → SE → SE
  | .lit n, b => if n = 0 then .lit 0 else b
  | a, .lit n => if n = 0 then .lit 0 else a
  | a, b => .and a b

/-- Are two texts the same? (Quick to compute.) -/
def beqU : List UInt8 → List UInt8 → Bool
  | [], [] => true
  | a :: l, b :: m => Nat.beq a.toNat b.toNat && beqU l m
  | _, _ => false
def beqT (a b : ByteArray) : Bool := beqU a.data.toList b.data.toList
theorem beqU_iff : ∀ {a b : List UInt8}, beqU a b = true ↔ a = b
  | [], [] => by simp [beqU]
  | a :: l, b :: m => by
    simp only [beqU, Bool.and_eq_true, beqU_iff (a := l) (b := m), List.cons.injEq]
    exact and_congr_left fun _ => ⟨fun h => UInt8.toNat_inj.1 (Nat.eq_of_beq_eq_true h), fun h => by rw [h]; exact Nat.beq_refl _⟩
  | [], _ :: _ => by simp [beqU]
  | _ :: _, [] => by simp [beqU]
theorem beqT_iff {a b : ByteArray} : beqT a b = true ↔ a = b := by
  obtain ⟨⟨x⟩⟩ := a
  obtain ⟨⟨y⟩⟩ := b
  simp [beqT, beqU_iff]

/-- An abstract value. A block is named by its number in the abstract memory. -/
inductive AV where
  | int (k : IntKind) (e : SE)
  | bool (e : SE)
  | str (s : ByteArray)
  | ptr (id off : Nat)
  | sptr (id : Nat) (i : SE) (size off : Nat)
  | nilptr
  | gptr (g : Nat)
  | slice (id off : Nat) (len cap : SE)
  | arg (id : Nat)
  | mapv (id : Nat)
  | nilmap
  | erow (id off0 off skip : Nat)
  | row (id off : Nat) (len : SE) (skip : Nat)
  | nilslice
  | bstr (l : SE)
  | fn (f : FuncId) (cap : AV)
  | fnx (f : Fn) (first : AV)
  | nilFunc
  | iface (t : TypeId) (v : AV)
  | nilIface
  | xslice (b o n c : SE)
  | agg (l : AV)
  | tuple (l : AV)
  | nil
  | cons (a b : AV)
  deriving DecidableEq, Inhabited

def beqA : AV → AV → Bool
  | .int k e, .int k' e' => beqS e e' && decide (k = k')
  | .bool e, .bool e' => beqS e e'
  | .str s, .str s' => decide (s = s')
  | .ptr i o, .ptr i' o' => Nat.beq i i' && Nat.beq o o'
  | .sptr i e s o, .sptr i' e' s' o' => Nat.beq i i' && beqS e e' && Nat.beq s s' && Nat.beq o o'
  | .nilptr, .nilptr => true
  | .gptr g, .gptr g' => Nat.beq g g'
  | .slice i o n c, .slice i' o' n' c' => Nat.beq i i' && Nat.beq o o' && beqS n n' && beqS c c'
  | .arg i, .arg i' => Nat.beq i i'
  | .mapv i, .mapv i' => Nat.beq i i'
  | .nilmap, .nilmap => true
  | .erow i p o s, .erow i' p' o' s' => Nat.beq i i' && Nat.beq p p' && Nat.beq o o' && Nat.beq s s'
  | .row i o n c, .row i' o' n' c' => Nat.beq i i' && Nat.beq o o' && beqS n n' && Nat.beq c c'
  | .nilslice, .nilslice => true
  | .bstr l, .bstr l' => beqS l l'
  | .fn f c, .fn f' c' => Nat.beq f f' && beqA c c'
  | .fnx f c, .fnx f' c' => decide (f = f') && beqA c c'
  | .nilFunc, .nilFunc => true
  | .iface t v, .iface t' v' => Nat.beq t t' && beqA v v'
  | .nilIface, .nilIface => true
  | .xslice b o n c, .xslice b' o' n' c' => beqS b b' && beqS o o' && beqS n n' && beqS c c'
  | .agg l, .agg l' => beqA l l'
  | .tuple l, .tuple l' => beqA l l'
  | .nil, .nil => true
  | .cons a b, .cons a' b' => beqA a a' && beqA b b'
  | _, _ => false
theorem beqA_eq : ∀ {a b : AV}, beqA a b = true → a = b := by
  intro a
  induction a with
  | fn f c ih => intro b h; cases b <;> simp only [beqA, Bool.and_eq_true] at h <;> first | (cases h; done) | (rw [Nat.eq_of_beq_eq_true h.1, ih h.2])
  | fnx f c ih => intro b h; cases b <;> simp only [beqA, Bool.and_eq_true, decide_eq_true_eq] at h <;> first | (cases h; done) | (rw [h.1, ih h.2])
  | iface t v ih => intro b h; cases b <;> simp only [beqA, Bool.and_eq_true] at h <;> first | (cases h; done) | (rw [Nat.eq_of_beq_eq_true h.1, ih h.2])
  | agg l ih => intro b h; cases b <;> simp only [beqA] at h <;> first | (cases h; done) | (rw [ih h])
  | tuple l ih => intro b h; cases b <;> simp only [beqA] at h <;> first | (cases h; done) | (rw [ih h])
  | cons x y ih1 ih2 => intro b h; cases b <;> simp only [beqA, Bool.and_eq_true] at h <;> first | (cases h; done) | (rw [ih1 h.1, ih2 h.2])
  | _ =>
    intro b h
    cases b <;> simp only [beqA, Bool.and_eq_true, decide_eq_true_eq] at h <;> first
      | (cases h; done)
      | rfl
      | (rw [beqS_eq h])
      | (rw [h])
      | (rw [Nat.eq_of_beq_eq_true h])
      | (rw [beqS_eq h.1, h.2])
      | (rw [Nat.eq_of_beq_eq_true h.1, Nat.eq_of_beq_eq_true h.2])
      | (obtain ⟨⟨⟨h1, h2⟩, h3⟩, h4⟩ := h
         first
           | rw [Nat.eq_of_beq_eq_true h1, beqS_eq h2, Nat.eq_of_beq_eq_true h3, Nat.eq_of_beq_eq_true h4]
           | rw [Nat.eq_of_beq_eq_true h1, Nat.eq_of_beq_eq_true h2, Nat.eq_of_beq_eq_true h3, Nat.eq_of_beq_eq_true h4]
           | rw [beqS_eq h1, beqS_eq h2, beqS_eq h3, beqS_eq h4]
           | rw [Nat.eq_of_beq_eq_true h1, Nat.eq_of_beq_eq_true h2, beqS_eq h3, beqS_eq h4]
           | rw [Nat.eq_of_beq_eq_true h1, Nat.eq_of_beq_eq_true h2, beqS_eq h3, Nat.eq_of_beq_eq_true h4])

/-- What a number of the abstract memory stands for: a block, and how many elements its slices may take. -/
structure Ent where
  blk : Nat
  cap : Nat
  base : Nat := 0
  addr : Option Addr := none
  len : Nat := 0

/-- A number of its kind. -/
def inR (k : IntKind) (n : Int) : Bool := decide (k.min ≤ n ∧ n ≤ k.max)

/-- A slice by numbers: its block (twice; one more: it lies at a spot, and has no room), offset, length, capacity. -/
def xsV (b o n c : Int) : Value :=
  if b < 0 then .slice none n.toNat c.toNat
  else if b % 2 = 0 then .slice (some ⟨(b / 2).toNat, o.toNat, none⟩) n.toNat c.toNat
  else .slice (some ⟨(b / 2).toNat, o.toNat, some c.toNat⟩) n.toNat 0
theorem xsV_cells (b o n c : Int) : (xsV b o n c).cells = #[xsV b o n c] := by
  unfold xsV
  split
  · rfl
  · split <;> rfl
theorem xsV_slice (b o n c : Int) : ∃ a m, xsV b o n c = .slice a n.toNat m := by
  unfold xsV
  split
  · exact ⟨_, _, rfl⟩
  · split <;> exact ⟨_, _, rfl⟩

mutual
def dv (bs : List Ent) (ρ : Env) : AV → Option Value
  | .int k e => if inR k (den ρ e) = true then some (.int k (den ρ e)) else none
  | .bool e => some (.bool (evB ρ e))
  | .str s => some (.string s)
  | .ptr id off => (bs[id]?).map fun b => .pointer (some ⟨b.blk, b.base + off, none⟩)
  | .sptr id i size off => (bs[id]?).map fun b => .pointer (some ⟨b.blk, b.base + ((den ρ i).toNat * size + off), none⟩)
  | .nilptr => some (.pointer none)
  | .gptr g => some (.pointer (some ⟨g, 0, none⟩))
  | .slice id off len cap => (bs[id]?).map fun b => .slice (some ⟨b.blk, b.base + off, none⟩) (den ρ len).toNat (den ρ cap).toNat
  | .arg id => (bs[id]?).map fun b => .slice b.addr b.len b.cap
  | .mapv id => (bs[id]?).map fun b => .map (some b.blk)
  | .nilmap => some (.map none)
  | .erow id off0 off skip => (bs[id]?).map fun b => if b.cap = skip then .slice (some ⟨b.blk, b.base + off0, none⟩) 0 0 else .slice (some ⟨b.blk, b.base + off, none⟩) 0 (b.cap - skip)
  | .row id off len skip => (bs[id]?).bind fun b => if (den ρ len).toNat + skip ≤ b.cap then some (.slice (some ⟨b.blk, b.base + off, none⟩) (den ρ len).toNat (b.cap - skip)) else none
  | .nilslice => some (.slice none 0 0)
  | .bstr l => if (dens ρ l).all (inR .u8) = true then some (.string ⟨((dens ρ l).map fun n => n.toNat.toUInt8).toArray⟩) else none
  | .fn f c => (dvs bs ρ c).map fun vs => .func (.func f) #[] vs.toArray
  | .fnx f c => (dvs bs ρ c).map fun vs => .func f vs.toArray #[]
  | .nilFunc => some .nilFunc
  | .iface t v => (dv bs ρ v).map fun x => .iface t x
  | .nilIface => some .nilIface
  | .xslice b o n c => some (xsV (den ρ b) (den ρ o) (den ρ n) (den ρ c))
  | .agg l => (dvs bs ρ l).map fun vs => .agg vs.toArray
  | .tuple l => (dvs bs ρ l).map fun vs => .tuple vs.toArray
  | .nil => none
  | .cons _ _ => none
def dvs (bs : List Ent) (ρ : Env) : AV → Option (List Value)
  | .nil => some []
  | .cons a b => (dv bs ρ a).bind fun x => (dvs bs ρ b).map fun xs => x :: xs
  | _ => none
end

def ofList : List AV → AV
  | [] => .nil
  | a :: l => .cons a (ofList l)

/-- A chain's members. -/
def AV.members : AV → List AV
  | .cons a b => a :: b.members
  | _ => []

/-- The cells that a value takes. -/
def AV.cells : AV → List AV
  | .agg l => l.members
  | v => [v]

/-- A column of a row whose members are letters' answers: whole numbers, truths, slices (their block, offset, length, capacity). -/
inductive Col where
  | int (k : IntKind) (g : Nat)
  | bool (g : Nat)
  | sl (b o n c : Nat)
  deriving DecidableEq, Inhabited

/-- A map's key that is known. -/
inductive MK where
  | s (b : ByteArray)
  | i (k : IntKind) (n : Int)
  | a (l : List (IntKind × Int))
  deriving DecidableEq, Inhabited
def MK.val : MK → Value
  | .s b => .string b
  | .i k n => .int k n
  | .a l => .agg (l.map fun p => Value.int p.1 p.2).toArray
def MK.av : MK → AV
  | .s b => .str b
  | .i k n => .int k (.lit n)
  | .a l => .agg (ofList (l.map fun p => AV.int p.1 (.lit p.2)))
def MK.ok : MK → Bool
  | .s _ => true
  | .i k n => inR k n
  | .a l => l.all fun p => inR p.1 p.2
def beqP : List (IntKind × Int) → List (IntKind × Int) → Bool
  | [], [] => true
  | (k, n) :: l, (k', n') :: l' => decide (k = k') && decide (n = n') && beqP l l'
  | _, _ => false
theorem beqP_iff : ∀ {a b : List (IntKind × Int)}, beqP a b = true ↔ a = b
  | [], [] => by simp [beqP]
  | (k, n) :: l, (k', n') :: l' => by simp [beqP, beqP_iff (a := l) (b := l'), and_assoc]
  | [], _ :: _ => by simp [beqP]
  | _ :: _, [] => by simp [beqP]
def beqK : MK → MK → Bool
  | .s a, .s b => beqT a b
  | .i k n, .i k' n' => decide (k = k') && decide (n = n')
  | .a l, .a l' => beqP l l'
  | _, _ => false
theorem beqK_iff {a b : MK} : beqK a b = true ↔ a = b := by
  cases a <;> cases b <;> simp [beqK, beqT_iff, beqP_iff]

/-- An order of keys (that a map's keys may be told in one order; nothing hangs on it). -/
def ltU : List UInt8 → List UInt8 → Bool
  | [], _ :: _ => true
  | a :: l, b :: m => Nat.blt a.toNat b.toNat || (Nat.beq a.toNat b.toNat && ltU l m)
  | _, [] => false
def ltP : List (IntKind × Int) → List (IntKind × Int) → Bool
  | [], _ :: _ => true
  | a :: l, b :: m => decide (a.2 < b.2) || (decide (a.2 = b.2) && ltP l m)
  | _, [] => false
def ltK : MK → MK → Bool
  | .s a, .s b => ltU a.data.toList b.data.toList
  | .i _ n, .i _ m => decide (n < m)
  | .a l, .a m => ltP l m
  | _, _ => false
def insK {α : Type} (q : MK) (v : α) : List MK → List α → List MK × List α
  | k :: ks, w :: vs => if ltK q k = true then (q :: k :: ks, v :: w :: vs) else (k :: (insK q v ks vs).1, w :: (insK q v ks vs).2)
  | ks, vs => (ks ++ [q], vs ++ [v])

/-- An abstract block: the cells that are known (more may stand behind them), its elements' type; whether it may be written; of a block that 'append' made: the cells of a member. 'sym': a row of unknown length, whose members are the function letters' answers. 'mp': a map of one's own, its keys known. 'iter': a walk over a map, before its first step; 'siter': over a text. 'dead': it may be another block by now. -/
inductive AObj where
  | cells (c : List AV) (ty : TypeId) (own : Bool) (grow : Option Nat)
  | sym (n cap : SE) (row : List Col) (ty : TypeId)
  | mp (ks : List MK) (vs : List AV)
  | iter (m : Nat)
  | siter (s : ByteArray) (pos : Nat)
  | dead
  deriving DecidableEq, Inhabited

def beqL : List AV → List AV → Bool
  | [], [] => true
  | a :: l, b :: m => beqA a b && beqL l m
  | _, _ => false
theorem beqL_eq : ∀ {a b : List AV}, beqL a b = true → a = b
  | [], [], _ => rfl
  | a :: l, b :: m, h => by
    simp only [beqL, Bool.and_eq_true] at h
    rw [beqA_eq h.1, beqL_eq h.2]
  | [], _ :: _, h => by cases h
  | _ :: _, [], h => by cases h
def beqKs : List MK → List MK → Bool
  | [], [] => true
  | a :: l, b :: m => beqK a b && beqKs l m
  | _, _ => false
theorem beqKs_eq : ∀ {a b : List MK}, beqKs a b = true → a = b
  | [], [], _ => rfl
  | a :: l, b :: m, h => by
    simp only [beqKs, Bool.and_eq_true] at h
    rw [beqK_iff.1 h.1, beqKs_eq h.2]
  | [], _ :: _, h => by cases h
  | _ :: _, [], h => by cases h
def beqO : AObj → AObj → Bool
  | .cells c ty own g, .cells c' ty' own' g' => beqL c c' && Nat.beq ty ty' && decide (own = own') && decide (g = g')
  | .sym n cap row ty, .sym n' cap' row' ty' => beqS n n' && beqS cap cap' && decide (row = row') && Nat.beq ty ty'
  | .mp ks vs, .mp ks' vs' => beqKs ks ks' && beqL vs vs'
  | .iter m, .iter m' => Nat.beq m m'
  | .siter s p, .siter s' p' => beqT s s' && Nat.beq p p'
  | .dead, .dead => true
  | _, _ => false
theorem beqO_eq {a b : AObj} (h : beqO a b = true) : a = b := by
  cases a <;> cases b <;> simp only [beqO, Bool.and_eq_true, decide_eq_true_eq] at h <;> first
    | (cases h; done)
    | rfl
    | (rw [beqKs_eq h.1, beqL_eq h.2])
    | (rw [beqT_iff.1 h.1, Nat.eq_of_beq_eq_true h.2])
    | (rw [Nat.eq_of_beq_eq_true h])
    | (obtain ⟨⟨⟨h1, h2⟩, h3⟩, h4⟩ := h
       first
         | rw [beqL_eq h1, Nat.eq_of_beq_eq_true h2, h3, h4]
         | rw [beqS_eq h1, beqS_eq h2, h3, Nat.eq_of_beq_eq_true h4])

structure ASt where
  slots : List (Option AV)
  mem : List AObj
  pc : List (SE × Bool)

inductive Tree where
  | ite (c : SE) (t e : Tree)
  | need (c : SE) (t : Tree)
  | both (a b : Tree)
  | leaf (v : AV) (mem : List AObj)
  | fail (n : Nat)
  | loop (id : Nat) (θ : List (Nat × SE)) (body : Tree)
  | again (id : Nat) (θ : List (Nat × SE))
  deriving DecidableEq, Inhabited

def subV (θ : List (Nat × SE)) (i : Nat) : SE :=
  match θ with
  | [] => .var i
  | (j, e) :: r => if i = j then e else subV r i

def Env.sub (ρ : Env) (θ : List (Nat × SE)) : Env := { ρ with v := fun i => den ρ (subV θ i) }

/-- What is to be shown of a tree. 'I': the loops' invariants, by number. 'L': what is asked of an end. -/
def Tree.holds (I : Nat → Env → Prop) (L : Env → AV → List AObj → Prop) (ρ : Env) : Tree → Prop
  | .ite c t e => (evB ρ c = true → t.holds I L ρ) ∧ (evB ρ c = false → e.holds I L ρ)
  | .need c t => evB ρ c = true ∧ t.holds I L ρ
  | .both a b => a.holds I L ρ ∧ b.holds I L ρ
  | .leaf v m => L ρ v m
  | .fail _ => False
  | .loop id θ body => I id (ρ.sub θ) ∧ ∀ ρ' : Env, ρ'.f = ρ.f → I id ρ' → body.holds I L ρ'
  | .again id θ => I id (ρ.sub θ) ∧ ((ρ.sub θ).v (1000 + id)).toNat < (ρ.v (1000 + id)).toNat

end Go.SX

/- Symbolic execution of the model's code, part 2: the operations that only compute or read. -/
namespace Go.SX

/-- A constant of the program's text, or a type's zero, as an abstract value. -/
def ofInts : List Value → Option AV
  | [] => some .nil
  | .int k n :: r => if inR k n = true then (ofInts r).map fun l => .cons (.int k (.lit n)) l else none
  | .bool b :: r => (ofInts r).map fun l => .cons (.bool (.lit (ofB b))) l
  | .string s :: r => (ofInts r).map fun l => .cons (.str s) l
  | .pointer none :: r => (ofInts r).map fun l => .cons .nilptr l
  | .slice none 0 0 :: r => (ofInts r).map fun l => .cons .nilslice l
  | .nilFunc :: r => (ofInts r).map fun l => .cons .nilFunc l
  | .nilIface :: r => (ofInts r).map fun l => .cons .nilIface l
  | .map none :: r => (ofInts r).map fun l => .cons .nilmap l
  | _ => none
def ofV : Value → Option AV
  | .int k n => if inR k n = true then some (.int k (.lit n)) else none
  | .bool b => some (.bool (.lit (ofB b)))
  | .string s => some (.str s)
  | .pointer none => some .nilptr
  | .slice none 0 0 => some .nilslice
  | .nilFunc => some .nilFunc
  | .nilIface => some .nilIface
  | .map none => some .nilmap
  | .agg cs => (ofInts cs.toList).map .agg
  | .tuple cs => (ofInts cs.toList).map .tuple
  | _ => none

def opd (slots : List (Option AV)) : Operand → Option AV
  | .tmp t => match slots[t]? with
    | some x => x
    | none => none
  | .const v => ofV v
  | .global g => some (.gptr g)
  | .func f => some (.fn f .nil)

def isShift : BinOp → Bool
  | .shl | .shr => true
  | _ => false
def isDiv : BinOp → Bool
  | .quo | .rem => true
  | _ => false
def isCmp : BinOp → Bool
  | .eql | .neq | .lss | .leq | .gtr | .geq => true
  | _ => false

/-- Are two values the same, both of one scalar kind? -/
def eqS (P : Program) (t : TypeId) (x y : AV) : Option SE :=
  match P.underlying t, x, y with
  | some (.int _), .int k a, .int k' b => if k = k' then some (mkCmp .eql a b) else none
  | some .bool, .bool a, .bool b => some (mkCmp .eql (mkNot a) (mkNot b))
  | some .string, .str a, .str b => some (.lit (ofB (beqT a b)))
  | some (.pointer _), .nilptr, .nilptr => some (.lit 1)
  | some (.pointer _), .nilptr, .ptr _ _ => some (.lit 0)
  | some (.pointer _), .ptr _ _, .nilptr => some (.lit 0)
  | some (.slice _), .nilslice, .nilslice => some (.lit 1)
  | some (.slice _), .row _ _ _ _, .nilslice => some (.lit 0)
  | some (.slice _), .slice _ _ _ _, .nilslice => some (.lit 0)
  | _, _, _ => none

/-- The part of a struct or an array. -/
def partA (P : Program) (t : TypeId) (cs : List AV) (off : Nat) : Option AV :=
  match P.underlying t, P.info? t with
  | some (.struct _), some i | some (.array _ _), some i => if off + i.size ≤ cs.length then some (.agg (ofList ((cs.drop off).take i.size))) else none
  | some (.struct _), none | some (.array _ _), none | none, _ => none
  | _, _ => cs[off]?

def eqF (P : Program) (xs ys : List AV) : List Field → Option SE
  | [] => some (.lit 1)
  | f :: fs => if f.name ≠ "_" then
      (partA P f.type xs f.offset).bind fun a => (partA P f.type ys f.offset).bind fun b =>
      (eqS P f.type a b).bind fun c => (eqF P xs ys fs).map fun d => mkAnd c d
    else eqF P xs ys fs

def fieldsOf (P : Program) (t : TypeId) : Option (List Field) :=
  match P.underlying t with
  | some (.struct fs) => some fs.toList
  | _ => none

/-- x == y -/
def eqA (P : Program) (t : TypeId) (x y : AV) : Option SE :=
  match x, y with
  | .agg xs, .agg ys =>
    if P.stoodInHeld t || P.eqGuardType P.depth t then none else
    (fieldsOf P t).bind fun fs => eqF P xs.members ys.members fs
  | .int _ _, .int _ _ => none
  | .str _, .str _ => none
  | x, y => eqS P t x y

def eqBytes : SE → SE → SE
  | .cons a r, .cons b s => mkAnd (mkCmp .eql a b) (eqBytes r s)
  | .nil, .nil => .lit 1
  | _, _ => .lit 0
def lenSE : SE → Nat
  | .cons _ r => lenSE r + 1
  | _ => 0
def chain : SE → Bool
  | .cons _ r => chain r
  | .nil => true
  | _ => false

def binA (P : Program) (op : BinOp) (t : TypeId) (x y : AV) : Option (List SE × AV) :=
  match x, y with
  | .int k a, .int k' b =>
    if isShift op then some ([mkCmp .geq b (.lit 0)], .int k (mkBin op k a b))
    else if k = k' then
      if isDiv op then some ([mkCmp .neq b (.lit 0)], .int k (mkBin op k a b))
      else if isCmp op then some ([], .bool (mkCmp op a b))
      else some ([], .int k (mkBin op k a b))
    else none
  | .bstr a, .bstr b =>
    match op with
    | .eql => if chain a && chain b then some ([], .bool (eqBytes a b)) else none
    | .neq => if chain a && chain b then some ([], .bool (mkNot (eqBytes a b))) else none
    | _ => none
  | .str a, .str b =>
    match op with
    | .eql => some ([], .bool (.lit (ofB (beqT a b))))
    | .neq => some ([], .bool (.lit (ofB (!(beqT a b)))))
    | _ => none
  | x, y =>
    match op with
    | .eql => (eqA P t x y).map fun c => ([], .bool c)
    | .neq => (eqA P t x y).map fun c => ([], .bool (mkNot c))
    | _ => none

def unA (op : UnOp) (x : AV) : Option AV :=
  match op, x with
  | .neg, .int k a => some (.int k (mkBin .sub k (.lit 0) a))
  | .xor, .int k a => some (.int k (mkBin .xor k (.lit (if k.signed then -1 else k.max)) a))
  | .not, .bool a => some (.bool (mkNot a))
  | _, _ => none

def convA (P : Program) (src dst : TypeId) (x : AV) : Option AV :=
  match P.underlying src, P.underlying dst, x with
  | some _, some (.int k), .int _ a => some (.int k (mkConv k a))
  | some .string, some .string, .str s => some (.str s)
  | _, _, _ => none

def sizeA (P : Program) (t : TypeId) : Option Nat := (P.info? t).map (·.size)

def fieldAddrA (P : Program) (t : TypeId) (x : AV) (f : Nat) : Option AV :=
  (fieldsOf P t).bind fun fs => (fs[f]?).bind fun fd =>
    match sizeA P fd.type with
    | some (_ + 1) => match x with
      | .ptr id off => some (.ptr id (off + fd.offset))
      | .sptr id i s off => some (.sptr id i s (off + fd.offset))
      | _ => none
    | _ => none

def fieldA (P : Program) (t : TypeId) (x : AV) (f : Nat) : Option AV :=
  match x with
  | .agg l => (fieldsOf P t).bind fun fs => (fs[f]?).bind fun fd => partA P fd.type l.members fd.offset
  | _ => none

/-- The address of a member; what must hold. -/
def indexAddrA (P : Program) (mem : List AObj) (t : TypeId) (x i : AV) : Option (List SE × AV) :=
  match P.underlying t, x, i with
  | some (.array n e), .ptr id off, .int _ (.lit j) =>
    match sizeA P e with
    | some s => if 0 ≤ j ∧ j < n then some ([], .ptr id (off + j.toNat * s)) else none
    | none => none
  | some (.slice e), .slice id off len _, .int _ ix =>
    match sizeA P e with
    | some s => match ix with
      | .lit j => if 0 ≤ j then some ([mkCmp .lss (.lit j) len], .ptr id (off + j.toNat * s)) else none
      | _ => if off = 0 then some ([mkCmp .leq (.lit 0) ix, mkCmp .lss ix len], .sptr id ix s 0) else none
    | none => none
  | some (.slice e), .arg id, .int _ ix =>
    match sizeA P e, mem[id]? with
    | some s, some (.sym n _ _ _) => match ix with
      | .lit j => if 0 ≤ j then some ([mkCmp .lss (.lit j) n], .ptr id (j.toNat * s)) else none
      | _ => some ([mkCmp .leq (.lit 0) ix, mkCmp .lss ix n], .sptr id ix s 0)
    | _, _ => none
  | some (.slice e), .row id off len _, .int _ ix =>
    match sizeA P e with
    | some s => match ix with
      | .lit j => if 0 ≤ j then some ([mkCmp .lss (.lit j) len], .ptr id (off + j.toNat * s)) else none
      | _ => none
    | none => none
  | _, _, _ => none

def indexA (P : Program) (t : TypeId) (x i : AV) : Option AV :=
  match P.underlying t, x, i with
  | some (.array n e), .agg l, .int _ (.lit j) =>
    match sizeA P e with
    | some s => if 0 ≤ j ∧ j < n then partA P e l.members (j.toNat * s) else none
    | none => none
  | _, _, _ => none

def takeC (cs : List AV) (off n : Nat) : Option (List AV) := if off + n ≤ cs.length then some ((cs.drop off).take n) else none

def aggD : TypeDesc → Bool
  | .struct _ | .array _ _ => true
  | _ => false

/-- The cells of member i of a row. -/
def colA (i : SE) : Col → AV
  | .int k g => .int k (.app g (.cons i .nil))
  | .bool g => .bool (.app g (.cons i .nil))
  | .sl b o n c => .xslice (.app b (.cons i .nil)) (.app o (.cons i .nil)) (.app n (.cons i .nil)) (.app c (.cons i .nil))
def rowAt (row : List Col) (i : SE) : List AV := row.map (colA i)

/-- What a place holds. -/
def loadA (P : Program) (mem : List AObj) (t : TypeId) (x : AV) : Option (List SE × AV) :=
  match P.underlying t, sizeA P t with
  | some d, some n =>
    match x with
    | .ptr id off => match mem[id]? with
      | some (.cells c _ _ _) => (if aggD d then (takeC c off n).map fun l => .agg (ofList l) else c[off]?).map fun a => ([], a)
      | some (.sym m _ row _) =>
        let i := SE.lit (off / row.length : Nat)
        (if aggD d then (takeC (rowAt row i) (off % row.length) n).map fun l => .agg (ofList l) else (rowAt row i)[off % row.length]?).map fun a => ([mkCmp .lss i m], a)
      | _ => none
    | .sptr id i s off => match mem[id]? with
      | some (.sym m _ row _) => if s = row.length then
          (if aggD d then (takeC (rowAt row i) off n).map fun l => .agg (ofList l) else (rowAt row i)[off]?).map fun a => ([mkCmp .leq (.lit 0) i, mkCmp .lss i m], a)
        else none
      | _ => none
    | _ => none
  | _, _ => none

def fillA (place : Nat → Option (Nat × Nat)) (cells : List AV) : List (Nat × AV) → Option (List AV)
  | [] => some cells
  | (i, v) :: rest =>
    match place i with
    | none => none
    | some (off, size) =>
      if v.cells.length ≠ size || off + v.cells.length > cells.length then none
      else fillA place (cells.take off ++ v.cells ++ cells.drop (off + v.cells.length)) rest

def zeroA (P : Program) (t : TypeId) : Option AV := ((P.info? t).bind (·.zero)).bind ofV

def partsA (ev : Operand → Option AV) : List (Nat × Operand) → Option (List (Nat × AV))
  | [] => some []
  | (i, x) :: r => (ev x).bind fun a => (partsA ev r).map fun l => (i, a) :: l

def places (P : Program) : List Field → Option (List (Nat × Nat))
  | [] => some []
  | f :: fs => (sizeA P f.type).bind fun s => (places P fs).map fun l => (f.offset, s) :: l

def buildA (P : Program) (t : TypeId) (parts : List (Nat × AV)) : Option AV :=
  (zeroA P t).bind fun z =>
  match P.underlying t with
  | some (.struct fs) => (places P fs.toList).bind fun pl => (fillA (fun i => pl[i]?) z.cells parts).map fun c => .agg (ofList c)
  | some (.array _ e) => (sizeA P e).bind fun s => (fillA (fun i => some (i * s, s)) z.cells parts).map fun c => .agg (ofList c)
  | _ => none

/-- A slice expression, its bounds as numbers. -/
def litOf : Option AV → Option (Option Nat)
  | none => some none
  | some (.int _ (.lit n)) => if 0 ≤ n then some (some n.toNat) else none
  | _ => none
def sliceA (P : Program) (mem : List AObj) (t : TypeId) (x : AV) (lo hi : Option AV) : Option (List SE × AV) :=
  match P.underlying t with
  | some (.array n e) => match x, lo, hi, sizeA P e with
    | .gptr g, none, none, some _ => some ([], .xslice (.lit (2 * g)) (.lit 0) (.lit n) (.lit n))
    | _, _, _, _ => none
  | some (.slice e) => match sizeA P e, litOf lo, litOf hi with
    | some s, some lo', some hi' =>
      let l := lo'.getD 0
      match x with
      | .arg id => match mem[id]? with
        | some (.sym n cap _ _) => match hi' with
          | some h => if l ≤ h ∧ 0 < h then some ((if l = 0 then [] else [mkCmp .lss (.lit l) cap]) ++ [mkCmp .leq (.lit h) cap], .slice id (l * s) (.lit (h - l : Nat)) (if l = 0 then cap else mkBin .sub .i64 cap (.lit l))) else none
          | none => if l = 0 then none else some ([mkCmp .lss (.lit l) cap, mkCmp .leq (.lit l) n], .slice id (l * s) (mkBin .sub .i64 n (.lit l)) (mkBin .sub .i64 cap (.lit l)))
        | _ => none
      | .slice id off len cap =>
        let cap' := if l = 0 then cap else mkBin .sub .i64 cap (.lit l)
        let base := if l = 0 then [] else [mkCmp .lss (.lit l) cap, mkCmp .leq cap (.lit 9223372036854775807)]
        match hi' with
        | some h => if l ≤ h then some (base ++ [mkCmp .leq (.lit h) cap], .slice id (off + l * s) (.lit (h - l : Nat)) cap') else none
        | none => some (base ++ [mkCmp .leq (.lit l) len, mkCmp .leq len (.lit 9223372036854775807)], .slice id (off + l * s) (if l = 0 then len else mkBin .sub .i64 len (.lit l)) cap')
      | .row id off (.lit n) skip =>
        let h := hi'.getD n.toNat
        match mem[id]? with
        | some (.cells c _ _ (some s')) =>
          if s' = s ∧ 0 < s ∧ 0 ≤ n ∧ off = skip * s ∧ off + n.toNat * s ≤ c.length ∧ l ≤ h ∧ h ≤ n.toNat ∧ (l = 0 ∨ l < n.toNat) then some ([], .row id (off + l * s) (.lit (h - l : Nat)) (skip + l)) else none
        | _ => none
      | .row id off n skip => match hi' with
        | some h => if l ≤ h ∧ (l = 0 ∨ l < h) then some ([mkCmp .leq (.lit h) n], .row id (off + l * s) (.lit (h - l : Nat)) (skip + l)) else none
        | none => none
      | _ => none
    | _, _, _ => none
  | _ => none

/-- Bytes as a text. -/
def bytesOf : List AV → Option SE
  | [] => some .nil
  | .int .u8 e :: r => (bytesOf r).map fun l => .cons e l
  | _ => none
def bytesA (P : Program) (mem : List AObj) (src dst : TypeId) (x : AV) : Option (List SE × AV) :=
  match P.underlying src, P.underlying dst with
  | some (.slice e), some .string => match P.underlying e with
    | some (.int .u8) => match x with
      | .nilslice => some ([], .bstr .nil)
      | .row id off (.lit n) _ => match mem[id]? with
        | some (.cells c _ _ _) => if 0 ≤ n then (takeC c off n.toNat).bind fun l => (bytesOf l).map fun b => ([], .bstr b) else none
        | _ => none
      | .slice id off (.lit n) _ => match mem[id]? with
        | some (.sym m _ row _) => if 0 ≤ n ∧ row.length = 1 then
            (bytesOf ((List.range n.toNat).flatMap fun j => rowAt row (.lit (off + j : Nat)))).map fun b => ([mkCmp .leq (.lit (off + n.toNat : Nat)) m, mkCmp .lss (.lit 0) m], .bstr b) else none
        | _ => none
      | _ => none
    | _ => none
  | _, _ => none

def evs (ev : Operand → Option AV) : List Operand → Option (List AV)
  | [] => some []
  | x :: r => (ev x).bind fun a => (evs ev r).map fun l => a :: l

def lenA (P : Program) (mem : List AObj) (t : TypeId) (x : AV) : Option (List SE × AV) :=
  match P.underlying t, x with
  | some (.slice _), .slice _ _ n _ => some ([mkCmp .leq (.lit 0) n, mkCmp .leq n (.lit 9223372036854775807)], .int .i64 n)
  | some (.slice _), .arg id => match mem[id]? with
    | some (.sym n _ _ _) => some ([], .int .i64 n)
    | _ => none
  | some (.slice _), .row _ _ n _ => some ([mkCmp .leq (.lit 0) n, mkCmp .leq n (.lit 9223372036854775807)], .int .i64 n)
  | some (.slice _), .xslice _ _ n _ => some ([mkCmp .leq (.lit 0) n, mkCmp .leq n (.lit 9223372036854775807)], .int .i64 n)
  | some (.slice _), .nilslice => if inR .i64 0 = true then some ([], .int .i64 (.lit 0)) else none
  | some (.array n _), _ => if inR .i64 n = true then some ([], .int .i64 (.lit n)) else none
  | some .string, .str s => if inR .i64 s.size = true then some ([], .int .i64 (.lit s.size)) else none
  | _, _ => none

def maxA (f : SE → SE → SE) (k : IntKind) (a : SE) : List AV → Option AV
  | [] => some (.int k a)
  | .int k' b :: r => if k' = k then maxA f k (f a b) r else none
  | _ => none
def max2 (f : SE → SE → SE) : List AV → Option AV
  | .int k a :: r => maxA f k a r
  | _ => none

def builtinA (P : Program) (mem : List AObj) (b : Builtin) (ts : Array TypeId) (xs : List AV) : Option (List SE × AV) :=
  match b, ts.toList, xs with
  | .len, [t], [x] => lenA P mem t x
  | .max, _, xs => (max2 mkMx xs).map fun a => ([], a)
  | .min, _, xs => (max2 mkMn xs).map fun a => ([], a)
  | _, _, _ => none

/-- Texts that are known, nil interfaces, bound methods, maps, the end of a row. -/
def idxS (s : ByteArray) (n : Int) : Option AV := if 0 ≤ n then (s.data.toList[n.toNat]?).map fun b => .int .u8 (.lit (b.toNat : Int)) else none
def sliceS (s : ByteArray) (lo hi : Option Nat) : Option AV :=
  let l := lo.getD 0
  let h := hi.getD s.size
  if l ≤ h ∧ h ≤ s.size then some (.str ⟨((s.data.toList.take h).drop l).toArray⟩) else none
def optA (ev : Operand → Option AV) (y : Option Operand) : Option (Option AV) := match y with
  | none => some none
  | some y => (ev y).map some
def pureB (P : Program) (mem : List AObj) (ev : Operand → Option AV) (op : Op) : Option AV :=
  match op with
  | .index t x i => match P.underlying t, ev x, ev i with
    | some .string, some (.str s), some (.int _ (.lit n)) => idxS s n
    | _, _, _ => none
  | .slice t x lo hi none => match P.underlying t, ev x, optA ev lo, optA ev hi with
    | some .string, some (.str s), some l, some h => (litOf l).bind fun l' => (litOf h).bind fun h' => sliceS s l' h'
    | some (.slice e), some (.row id off (.lit n) skip), some l, some none => match litOf l, sizeA P e, mem[id]? with
      | some (some l'), some s, some (.cells c _ _ (some s')) => if s' = s ∧ 0 < s ∧ 0 < l' ∧ n = (l' : Int) ∧ off = skip * s ∧ off + l' * s ≤ c.length then some (.erow id off (off + l' * s) (skip + l')) else none
      | _, _, _ => none
    | _, _, _, _ => none
  | .binOp op t x y _ => match op, ev x, ev y with
    | .add, some (.str a), some (.str b) => if a.size + b.size ≤ 100000 then some (.str ⟨(a.data.toList ++ b.data.toList).toArray⟩) else none
    | .eql, some .nilIface, some .nilIface => match P.underlying t, y with
      | some (.interface _), .const _ => some (.bool (.lit 1))
      | _, _ => none
    | .neq, some .nilIface, some .nilIface => match P.underlying t, y with
      | some (.interface _), .const _ => some (.bool (.lit 0))
      | _, _ => none
    | _, _, _ => none
  | .makeFunc (.func f) first cap => if cap.size = 0 then (evs ev first.toList).map fun l => .fnx (.func f) (ofList l) else none
  | .call c => match c.callee, c.args.toList, c.argTypes.toList with
    | .builtin .len, [x], [t] => match P.underlying t, ev x with
      | some (.map _ _), some (.mapv id) => match mem[id]? with
        | some (.mp ks _) => if inR .i64 ks.length = true then some (.int .i64 (.lit (ks.length : Int))) else none
        | _ => none
      | some (.slice _), some (.erow _ _ _ _) => some (.int .i64 (.lit 0))
      | _, _ => none
    | _, _, _ => none
  | _ => none

/-- An operation that only computes or reads: what must hold, and its value. -/
def pureA0 (P : Program) (mem : List AObj) (ev : Operand → Option AV) (op : Op) : Option (List SE × AV) :=
  let ok (x : Option AV) : Option (List SE × AV) := x.map fun a => ([], a)
  match op with
  | .move x | .assign x => ok (ev x)
  | .pick c a b => match ev c with
    | some (.bool (.lit n)) => ok (if n ≠ 0 then ev a else ev b)
    | _ => none
  | .nilCheck x => match ev x with
    | some (.ptr id off) => some ([], .ptr id off)
    | some (.sptr id i s off) => some ([], .sptr id i s off)
    | some (.gptr g) => some ([], .gptr g)
    | some (.fn f c) => some ([], .fn f c)
    | _ => none
  | .binOp op t x y _ => (ev x).bind fun a => (ev y).bind fun b => binA P op t a b
  | .unOp op _ x => ok ((ev x).bind (unA op))
  | .convert s d x => (ev x).bind fun a => match convA P s d a with
    | some r => some ([], r)
    | none => bytesA P mem s d a
  | .slice t x lo hi none =>
    let o (y : Option Operand) : Option (Option AV) := match y with
      | none => some none
      | some y => (ev y).map some
    (ev x).bind fun a => (o lo).bind fun l => (o hi).bind fun h => sliceA P mem t a l h
  | .makeInterface t x => if P.concrete t then ok ((ev x).map (.iface t)) else none
  | .makeFunc (.func f) first cap => if first.size = 0 then ok ((evs ev cap.toList).map fun l => .fn f (ofList l)) else none
  | .fieldAddr t x f => ok ((ev x).bind fun a => fieldAddrA P t a f)
  | .field t x f => ok ((ev x).bind fun a => fieldA P t a f)
  | .indexAddr t x i => (ev x).bind fun a => (ev i).bind fun b => indexAddrA P mem t a b
  | .index t x i => ok ((ev x).bind fun a => (ev i).bind fun b => indexA P t a b)
  | .load t x => (ev x).bind fun a => loadA P mem t a
  | .extract x i => match ev x with
    | some (.tuple l) => ok (l.members[i]?)
    | _ => none
  | .build t ps => ok ((partsA ev ps.toList).bind (buildA P t))
  | .call c => match c.callee with
    | .builtin b => (evs ev c.args.toList).bind (builtinA P mem b c.argTypes)
    | _ => none
  | _ => none

def pureA (P : Program) (mem : List AObj) (ev : Operand → Option AV) (op : Op) : Option (List SE × AV) :=
  match pureA0 P mem ev op with
  | some r => some r
  | none => (pureB P mem ev op).map fun a => ([], a)

end Go.SX

/- Symbolic execution of the model's code, part 3: the operations that only compute or read do what part 2 says. -/
namespace Go.SX
set_option linter.unusedSimpArgs false
set_option linter.unusedVariables false

theorem evB_lit_ofB (ρ : Env) (b : Bool) : evB ρ (.lit (ofB b)) = b := by cases b <;> rfl
@[simp] theorem ofB_bne (b : Bool) : (ofB b != 0) = b := by cases b <;> rfl
theorem ofB_eq (b : Bool) : (ofB b == 0) = !b := by cases b <;> rfl
@[simp] theorem den_lit (ρ : Env) (n : Int) : den ρ (.lit n) = n := rfl

/-! ### whole numbers -/
theorem i64_wrap (n : Int) : IntKind.i64.wrap n = (n + 9223372036854775808) % 18446744073709551616 - 9223372036854775808 := by
  simp only [IntKind.wrap, IntKind.bits, IntKind.signed]
  simp
  omega
theorem u64_wrap (n : Int) : IntKind.u64.wrap n = n % 18446744073709551616 := by
  simp [IntKind.wrap, IntKind.bits, IntKind.signed]
theorem u8_wrap (n : Int) : IntKind.u8.wrap n = n % 256 := by
  simp [IntKind.wrap, IntKind.bits, IntKind.signed]
theorem u32_wrap (n : Int) : IntKind.u32.wrap n = n % 4294967296 := by
  simp [IntKind.wrap, IntKind.bits, IntKind.signed]

theorem ofInt_u64 {x : Int} (h0 : 0 ≤ x) (h1 : x < 18446744073709551616) : (BitVec.ofInt 64 x).toNat = x.toNat := by
  rw [BitVec.toNat_ofInt]
  congr 1
  exact Int.emod_eq_of_lt h0 h1
theorem or_add {x y : Int} (i : Nat) (hx : 0 ≤ x) (hx1 : x < 18446744073709551616) (hy : 0 ≤ y) (hy1 : y < 18446744073709551616) (h1 : x.toNat % 2 ^ i = 0) (h2 : y.toNat < 2 ^ i) : binI .or .u64 x y = IntKind.u64.wrap (x + y) := by
  show IntKind.u64.wrap (((BitVec.ofInt 64 x ||| BitVec.ofInt 64 y).toNat : Nat) : Int) = _
  rw [BitVec.toNat_or, ofInt_u64 hx hx1, ofInt_u64 hy hy1]
  have e : x.toNat = (x.toNat / 2 ^ i) <<< i := by
    rw [Nat.shiftLeft_eq]
    have := Nat.div_add_mod x.toNat (2 ^ i)
    rw [h1, Nat.mul_comm] at this
    omega
  have e2 : x.toNat ||| y.toNat = x.toNat + y.toNat := by
    rw [e, ← Nat.shiftLeft_add_eq_or_of_lt h2]
  rw [e2]
  congr 1
  omega
/-- One byte more of a word: by shift and or, by product and sum. -/
theorem word_step (acc : Int) {c : Int} (h0 : 0 ≤ c) (h1 : c ≤ 255) : binI .or .u64 (binI .shl .u64 acc 8) (IntKind.u64.wrap c) = binI .add .u64 (binI .mul .u64 256 acc) (IntKind.u64.wrap c) := by
  have e1 : binI .shl .u64 acc 8 = acc * 256 % 18446744073709551616 := by
    show IntKind.u64.wrap (acc * 2 ^ (min (8 : Int).toNat 64)) = _
    rw [u64_wrap]; rfl
  have e2 : binI .mul .u64 256 acc = acc * 256 % 18446744073709551616 := by
    show IntKind.u64.wrap (256 * acc) = _
    rw [u64_wrap, Int.mul_comm]
  have e3 : IntKind.u64.wrap c = c := by rw [u64_wrap]; omega
  rw [e1, e2, e3]
  rw [or_add 8 (by omega) (by omega) (by omega) (by omega) (by omega) (by omega)]
  rfl
theorem word_first {c : Int} (h0 : 0 ≤ c) (h1 : c ≤ 255) : binI .or .u64 0 (IntKind.u64.wrap c) = binI .add .u64 0 (IntKind.u64.wrap c) := by
  have e3 : IntKind.u64.wrap c = c := by rw [u64_wrap]; omega
  rw [e3, or_add 8 (by omega) (by omega) (by omega) (by omega) (by omega) (by omega)]
  rfl
theorem wrap_inR0 (k : IntKind) (n : Int) : k.min ≤ k.wrap n ∧ k.wrap n ≤ k.max := by
  cases k <;> simp only [IntKind.wrap, IntKind.min, IntKind.max, IntKind.bits, IntKind.signed] <;> simp <;> omega
theorem wrap_sub {k k' : IntKind} (h : subK k' k = true) (n : Int) : k.wrap (k'.wrap n) = k'.wrap n := by
  cases k <;> cases k' <;> first
    | (cases h; done)
    | (simp only [IntKind.wrap, IntKind.bits, IntKind.signed]; simp; done)
    | (simp only [IntKind.wrap, IntKind.bits, IntKind.signed]; simp; omega)
theorem wrap_narrow {k k' : IntKind} (h : narrowK k k' = true) (n : Int) : k.wrap (k'.wrap n) = k.wrap n := by
  cases k <;> cases k' <;> first
    | (cases h; done)
    | (simp only [IntKind.wrap, IntKind.bits, IntKind.signed]; simp; done)
    | (simp only [IntKind.wrap, IntKind.bits, IntKind.signed]; simp; omega)
theorem wrap_idem (k : IntKind) (n : Int) : k.wrap (k.wrap n) = k.wrap n := wrap_narrow (by cases k <;> rfl) n
theorem den_mkConv (ρ : Env) (k : IntKind) (a : SE) : den ρ (mkConv k a) = k.wrap (den ρ a) := by
  unfold mkConv
  split
  · rfl
  · split
    · rename_i h; simp only [den]; rw [wrap_sub h]
    · split
      · rename_i h; simp only [den]; rw [wrap_narrow h]
      · rfl
  · rename_i op k' a b
    split
    · rename_i h
      simp only [Bool.and_eq_true, decide_eq_true_eq] at h
      obtain ⟨h1, rfl⟩ := h
      cases op <;> first
        | (cases h1; done)
        | (simp only [den, binI, wrap_idem])
    · rfl
  · rfl
theorem byteS_den {b x : SE} {s : Int} (ρ : Env) (h : byteS b = some (x, s)) : den ρ b = IntKind.u8.wrap (binI .shr .u64 (den ρ x) s) := by
  unfold byteS at h
  split at h
  · cases h; rfl
  · cases h
    have : binI .shr .u64 (den ρ x) 0 = den ρ x := by
      show (den ρ x).fdiv (2 ^ (min (0 : Int).toNat 64)) = den ρ x
      rw [Int.fdiv_eq_ediv_of_nonneg _ (by decide)]
      simp
    rw [this]; rfl
  · cases h
theorem shr_num (x : Int) (k : Nat) (hk : k ≤ 64) : binI .shr .u64 x (k : Int) = x / 2 ^ k := by
  show x.fdiv (2 ^ (min (k : Int).toNat 64)) = _
  rw [Int.toNat_natCast, Nat.min_eq_left hk, Int.fdiv_eq_ediv_of_nonneg _ (Int.le_of_lt (Int.pow_pos (by omega)))]
theorem byte_next (Y c : Int) (hY : 0 ≤ Y) (hY1 : Y < 72057594037927936) (h0 : 0 ≤ c) (h1 : c ≤ 255) :
    binI .or .u64 (binI .shl .u64 Y 8) c = Y * 256 + c ∧ binI .add .u64 (binI .mul .u64 256 Y) c = Y * 256 + c := by
  have e1 := word_step Y h0 h1
  have e3 : IntKind.u64.wrap c = c := by rw [u64_wrap]; omega
  rw [e3] at e1
  have e2 : binI .add .u64 (binI .mul .u64 256 Y) c = Y * 256 + c := by
    show IntKind.u64.wrap (IntKind.u64.wrap (256 * Y) + c) = _
    simp only [u64_wrap]
    omega
  exact ⟨e1.trans e2, e2⟩
theorem byte_base (c : Int) (h0 : 0 ≤ c) (h1 : c ≤ 255) : binI .or .u64 0 c = c ∧ binI .add .u64 0 c = c := by
  have e1 := word_first h0 h1
  have e3 : IntKind.u64.wrap c = c := by rw [u64_wrap]; omega
  rw [e3] at e1
  have e2 : binI .add .u64 0 c = c := by
    show IntKind.u64.wrap (0 + c) = _
    rw [u64_wrap]; omega
  exact ⟨e1.trans e2, e2⟩
theorem wordB_den {a x e : SE} {s : Int} {shl : Bool} (ρ : Env) (h : wordB a x s shl = some e) : den ρ e = (if shl = true then binI .or .u64 (den ρ a) (IntKind.u8.wrap (binI .shr .u64 (den ρ x) s)) else binI .add .u64 (den ρ a) (IntKind.u8.wrap (binI .shr .u64 (den ρ x) s))) := by
  have nums : ∀ y : Int, binI .shr .u64 y 0 = y ∧ binI .shr .u64 y 8 = y / 256 ∧ binI .shr .u64 y 16 = y / 65536 ∧ binI .shr .u64 y 24 = y / 16777216 ∧ binI .shr .u64 y 32 = y / 4294967296 ∧ binI .shr .u64 y 40 = y / 1099511627776 ∧
      binI .shr .u64 y 48 = y / 281474976710656 ∧ binI .shr .u64 y 56 = y / 72057594037927936 := fun y =>
    ⟨(shr_num y 0 (by omega)).trans (Int.ediv_one y), shr_num y 8 (by omega), shr_num y 16 (by omega), shr_num y 24 (by omega), shr_num y 32 (by omega), shr_num y 40 (by omega), shr_num y 48 (by omega), shr_num y 56 (by omega)⟩
  have next : ∀ {X : SE}, wordB.next x s X = some e → ∃ Y : Int, binI .shr .u64 (den ρ X) (s + 8) = Y ∧ 0 ≤ Y ∧ Y < 72057594037927936 ∧ den ρ e = Y * 256 + IntKind.u8.wrap (binI .shr .u64 (den ρ x) s) := by
    intro X h
    unfold wordB.next at h
    obtain ⟨n0, n8, n16, n24, n32, n40, n48, n56⟩ := nums (den ρ x)
    split at h
    · rename_i hc
      obtain ⟨hs, hX⟩ := hc
      have hX := beqS_eq hX
      have hd : den ρ X = den ρ x % 18446744073709551616 := by rw [hX, den_mkConv, u64_wrap]
      obtain ⟨m0, m8, m16, m24, m32, m40, m48, m56⟩ := nums (den ρ X)
      cases h
      rcases hs with rfl | rfl | rfl | rfl | rfl | rfl | rfl
      · exact ⟨_, rfl, by show 0 ≤ binI .shr .u64 _ 8; rw [m8, hd]; omega, by show binI .shr .u64 _ 8 < _; rw [m8, hd]; omega, by show den ρ X = binI .shr .u64 _ 8 * 256 + _; rw [m8, n0, hd, u8_wrap]; omega⟩
      · exact ⟨_, rfl, by show 0 ≤ binI .shr .u64 _ 16; rw [m16, hd]; omega, by show binI .shr .u64 _ 16 < _; rw [m16, hd]; omega, by show binI .shr .u64 (den ρ X) 8 = binI .shr .u64 _ 16 * 256 + _; rw [m8, m16, n8, hd, u8_wrap]; omega⟩
      · exact ⟨_, rfl, by show 0 ≤ binI .shr .u64 _ 24; rw [m24, hd]; omega, by show binI .shr .u64 _ 24 < _; rw [m24, hd]; omega, by show binI .shr .u64 (den ρ X) 16 = binI .shr .u64 _ 24 * 256 + _; rw [m16, m24, n16, hd, u8_wrap]; omega⟩
      · exact ⟨_, rfl, by show 0 ≤ binI .shr .u64 _ 32; rw [m32, hd]; omega, by show binI .shr .u64 _ 32 < _; rw [m32, hd]; omega, by show binI .shr .u64 (den ρ X) 24 = binI .shr .u64 _ 32 * 256 + _; rw [m24, m32, n24, hd, u8_wrap]; omega⟩
      · exact ⟨_, rfl, by show 0 ≤ binI .shr .u64 _ 40; rw [m40, hd]; omega, by show binI .shr .u64 _ 40 < _; rw [m40, hd]; omega, by show binI .shr .u64 (den ρ X) 32 = binI .shr .u64 _ 40 * 256 + _; rw [m32, m40, n32, hd, u8_wrap]; omega⟩
      · exact ⟨_, rfl, by show 0 ≤ binI .shr .u64 _ 48; rw [m48, hd]; omega, by show binI .shr .u64 _ 48 < _; rw [m48, hd]; omega, by show binI .shr .u64 (den ρ X) 40 = binI .shr .u64 _ 48 * 256 + _; rw [m40, m48, n40, hd, u8_wrap]; omega⟩
      · exact ⟨_, rfl, by show 0 ≤ binI .shr .u64 _ 56; rw [m56, hd]; omega, by show binI .shr .u64 _ 56 < _; rw [m56, hd]; omega, by show binI .shr .u64 (den ρ X) 48 = binI .shr .u64 _ 56 * 256 + _; rw [m48, m56, n48, hd, u8_wrap]; omega⟩
    · split at h
      · rename_i hc
        obtain ⟨hs, hX⟩ := hc
        have hX := beqS_eq hX
        have hd : den ρ X = den ρ x % 4294967296 := by rw [hX, den_mkConv, u32_wrap]
        obtain ⟨m0, m8, m16, m24, m32, m40, m48, m56⟩ := nums (den ρ X)
        cases h
        rcases hs with rfl | rfl | rfl
        · exact ⟨_, rfl, by show 0 ≤ binI .shr .u64 _ 8; rw [m8, hd]; omega, by show binI .shr .u64 _ 8 < _; rw [m8, hd]; omega, by show den ρ X = binI .shr .u64 _ 8 * 256 + _; rw [m8, n0, hd, u8_wrap]; omega⟩
        · exact ⟨_, rfl, by show 0 ≤ binI .shr .u64 _ 16; rw [m16, hd]; omega, by show binI .shr .u64 _ 16 < _; rw [m16, hd]; omega, by show binI .shr .u64 (den ρ X) 8 = binI .shr .u64 _ 16 * 256 + _; rw [m8, m16, n8, hd, u8_wrap]; omega⟩
        · exact ⟨_, rfl, by show 0 ≤ binI .shr .u64 _ 24; rw [m24, hd]; omega, by show binI .shr .u64 _ 24 < _; rw [m24, hd]; omega, by show binI .shr .u64 (den ρ X) 16 = binI .shr .u64 _ 24 * 256 + _; rw [m16, m24, n16, hd, u8_wrap]; omega⟩
      · cases h
  have byt : 0 ≤ IntKind.u8.wrap (binI .shr .u64 (den ρ x) s) ∧ IntKind.u8.wrap (binI .shr .u64 (den ρ x) s) ≤ 255 := by rw [u8_wrap]; omega
  unfold wordB at h
  split at h
  · rename_i n
    split at h
    · rename_i hn
      subst hn
      obtain ⟨b1, b2⟩ := byte_base _ byt.1 byt.2
      have hr : (if shl = true then binI .or .u64 (den ρ (.lit 0)) (IntKind.u8.wrap (binI .shr .u64 (den ρ x) s)) else binI .add .u64 (den ρ (.lit 0)) (IntKind.u8.wrap (binI .shr .u64 (den ρ x) s))) = IntKind.u8.wrap (binI .shr .u64 (den ρ x) s) := by
        cases shl
        · exact b2
        · exact b1
      rw [hr]
      split at h
      · rename_i hs
        subst hs
        cases h
        show binI .shr .u64 (den ρ (mkConv .u64 x)) 56 = _
        rw [(nums _).2.2.2.2.2.2.2, (nums _).2.2.2.2.2.2.2, den_mkConv, u64_wrap, u8_wrap]
        omega
      · split at h
        · rename_i hs
          subst hs
          cases h
          show binI .shr .u64 (den ρ (mkConv .u32 x)) 24 = _
          rw [(nums _).2.2.2.1, (nums _).2.2.2.1, den_mkConv, u32_wrap, u8_wrap]
          omega
        · cases h
    · cases h
  · rename_i X t m
    split at h
    · rename_i hc
      simp only [Bool.and_eq_true, decide_eq_true_eq] at hc
      obtain ⟨⟨rfl, rfl⟩, rfl⟩ := hc
      obtain ⟨Y, e1, e2, e3, e4⟩ := next h
      rw [if_pos rfl, e4]
      show _ = binI .or .u64 (binI .shl .u64 (binI .shr .u64 (den ρ X) (s + 8)) 8) _
      rw [e1, (byte_next Y _ e2 e3 byt.1 byt.2).1]
    · cases h
  · rename_i m X t
    split at h
    · rename_i hc
      simp only [Bool.and_eq_true, decide_eq_true_eq, Bool.not_eq_true'] at hc
      obtain ⟨⟨rfl, rfl⟩, rfl⟩ := hc
      obtain ⟨Y, e1, e2, e3, e4⟩ := next h
      rw [if_neg (by simp), e4]
      show _ = binI .add .u64 (binI .mul .u64 256 (binI .shr .u64 (den ρ X) (s + 8))) _
      rw [e1, (byte_next Y _ e2 e3 byt.1 byt.2).2]
    · cases h
  · cases h
theorem wordR_den {op : BinOp} {k : IntKind} {a b e : SE} (ρ : Env) (h : wordR op k a b = some e) : den ρ e = binI op k (den ρ a) (den ρ b) := by
  unfold wordR at h
  split at h
  · simp only [Option.bind_eq_some_iff] at h
    obtain ⟨⟨x, s⟩, hb, h⟩ := h
    rw [byteS_den ρ hb]
    exact wordB_den ρ h
  · simp only [Option.bind_eq_some_iff] at h
    obtain ⟨⟨x, s⟩, hb, h⟩ := h
    rw [byteS_den ρ hb]
    exact wordB_den ρ h
  · split at h
    · split at h
      · rename_i hn
        cases h
        subst hn
        show _ = (den ρ a).fdiv (2 ^ (min (0 : Int).toNat k.bits))
        rw [Int.fdiv_eq_ediv_of_nonneg _ (by simp)]
        simp
      · cases h
    · cases h
  · cases h
theorem den_mulR (ρ : Env) (op : BinOp) (k : IntKind) (a b : SE) : den ρ (mulR op k a b) = binI op k (den ρ a) (den ρ b) := by
  unfold mulR
  split
  · show IntKind.i64.wrap (den ρ b * _) = IntKind.i64.wrap (_ * den ρ b)
    rw [Int.mul_comm]
  · rfl
theorem den_mkBin (ρ : Env) (op : BinOp) (k : IntKind) (a b : SE) : den ρ (mkBin op k a b) = binI op k (den ρ a) (den ρ b) := by
  unfold mkBin
  split
  · rfl
  · split
    · rename_i h; exact wordR_den ρ h
    · exact den_mulR ρ op k a b
theorem den_mkMx (ρ : Env) (a b : SE) : den ρ (mkMx a b) = if den ρ b > den ρ a then den ρ b else den ρ a := by
  unfold mkMx
  split
  · rfl
  · split
    · rename_i h; rw [beqS_eq h, ite_self]
    · rfl
theorem den_mkMn (ρ : Env) (a b : SE) : den ρ (mkMn a b) = if den ρ b < den ρ a then den ρ b else den ρ a := by
  unfold mkMn
  split
  · rfl
  · split
    · rename_i h; rw [beqS_eq h, ite_self]
    · rfl
theorem cmpI_same (op : BinOp) (x : Int) : cmpI op x x = cmpI op 0 0 := by
  cases op <;> simp [cmpI]
theorem den_cmp0 (ρ : Env) (op : BinOp) (a b : SE) : den ρ (cmp0 op a b) = ofB (cmpI op (den ρ a) (den ρ b)) := by
  unfold cmp0
  split
  · rfl
  · split
    · rename_i h; have h := beqS_eq h; subst h; rw [cmpI_same op (den ρ a)]; rfl
    · rfl
theorem den_mkCmp (ρ : Env) (op : BinOp) (a b : SE) : den ρ (mkCmp op a b) = ofB (cmpI op (den ρ a) (den ρ b)) := by
  unfold mkCmp
  split
  · rw [den_cmp0]; rfl
  · rw [den_cmp0]; rfl
  · rw [den_cmp0]
theorem evB_mkCmp (ρ : Env) (op : BinOp) (a b : SE) : evB ρ (mkCmp op a b) = cmpI op (den ρ a) (den ρ b) := by
  unfold evB; rw [den_mkCmp, ofB_bne]
theorem den_mkNot (ρ : Env) (a : SE) : den ρ (mkNot a) = ofB (!evB ρ a) := by
  have h0 : ∀ x : Int, (!(x != 0)) = (x == 0) := by intro x; simp [bne]
  unfold mkNot
  split <;> simp only [den, evB, ofB_bne, h0, ofB_eq, Bool.not_not, cmpI]
  all_goals first
    | rfl
    | (congr 1; rw [Bool.eq_iff_iff]; simp; try omega)
theorem evB_mkNot (ρ : Env) (a : SE) : evB ρ (mkNot a) = !evB ρ a := by
  show (den ρ (mkNot a) != 0) = _
  rw [den_mkNot, ofB_bne]
theorem evB_mkAnd (ρ : Env) (a b : SE) : evB ρ (mkAnd a b) = (evB ρ a && evB ρ b) := by
  unfold mkAnd
  split
  · rename_i n b
    split
    · rename_i h; subst h; simp [evB, den]
    · rename_i h; simp [evB, den, h]
  · rename_i n _
    split
    · rename_i h; subst h; simp [evB, den]
    · rename_i h; simp [evB, den, h]
  · simp [evB, den]

/-! ### values -/
variable {bs : List Ent} {ρ : Env}

theorem dv_int {k : IntKind} {e : SE} {v : Value} (h : dv bs ρ (.int k e) = some v) : v = .int k (den ρ e) ∧ inR k (den ρ e) = true := by
  simp only [dv] at h
  split at h
  · rename_i hr; cases h; exact ⟨rfl, hr⟩
  · cases h
theorem dv_int_mk {k : IntKind} {e : SE} (h : inR k (den ρ e) = true) : dv bs ρ (.int k e) = some (.int k (den ρ e)) := by simp only [dv, h, if_true]

theorem dv_row {id off skip : Nat} {len : SE} {v : Value} (h : dv bs ρ (.row id off len skip) = some v) : ∃ b, bs[id]? = some b ∧ (den ρ len).toNat + skip ≤ b.cap ∧ .slice (some ⟨b.blk, b.base + off, none⟩) (den ρ len).toNat (b.cap - skip) = v := by
  simp only [dv, Option.bind_eq_some_iff] at h
  obtain ⟨b, hb, h⟩ := h
  split at h
  · rename_i hc; cases h; exact ⟨b, hb, hc, rfl⟩
  · cases h
theorem dv_row_mk {id off skip : Nat} {len : SE} {b : Ent} (hb : bs[id]? = some b) (hc : (den ρ len).toNat + skip ≤ b.cap) : dv bs ρ (.row id off len skip) = some (.slice (some ⟨b.blk, b.base + off, none⟩) (den ρ len).toNat (b.cap - skip)) := by
  simp only [dv, hb, Option.bind_some, hc, if_true]
theorem wrap_inR (k : IntKind) (n : Int) : inR k (k.wrap n) = true := by
  unfold inR
  rw [decide_eq_true_eq]
  cases k <;> simp only [IntKind.wrap, IntKind.min, IntKind.max, IntKind.bits, IntKind.signed] <;> simp <;> omega

theorem tmod_inR (k : IntKind) {x : Int} (y : Int) (h : inR k x = true) : inR k (x.tmod y) = true := by
  unfold inR at h ⊢
  rw [decide_eq_true_eq] at h ⊢
  have h1 : 0 ≤ x → 0 ≤ x.tmod y ∧ x.tmod y ≤ x := fun hx => by
    rw [Int.tmod_eq_emod_of_nonneg hx]
    by_cases hy : y = 0
    · subst hy; simp; exact hx
    · refine ⟨Int.emod_nonneg _ hy, ?_⟩
      have h2 := Int.emod_add_mul_ediv x y
      rcases Int.lt_or_gt_of_ne hy with hy | hy
      · have h3 : x / y ≤ 0 := Int.ediv_nonpos_of_nonneg_of_nonpos hx (by omega)
        have h4 : 0 ≤ y * (x / y) := Int.mul_nonneg_of_nonpos_of_nonpos (by omega) h3
        omega
      · have h3 : 0 ≤ x / y := Int.ediv_nonneg hx (by omega)
        have h4 : 0 ≤ y * (x / y) := Int.mul_nonneg (by omega) h3
        omega
  have h2 : x ≤ 0 → x ≤ x.tmod y ∧ x.tmod y ≤ 0 := fun hx => by
    have h3 : (-x).tmod y = -(x.tmod y) := Int.neg_tmod ..
    have h4 : 0 ≤ (-x).tmod y ∧ (-x).tmod y ≤ -x := by
      have hx' : 0 ≤ -x := by omega
      rw [Int.tmod_eq_emod_of_nonneg hx']
      by_cases hy : y = 0
      · subst hy; simp; exact hx
      · refine ⟨Int.emod_nonneg _ hy, ?_⟩
        have h2 := Int.emod_add_mul_ediv (-x) y
        rcases Int.lt_or_gt_of_ne hy with hy | hy
        · have h3 : (-x) / y ≤ 0 := Int.ediv_nonpos_of_nonneg_of_nonpos hx' (by omega)
          have h4 : 0 ≤ y * ((-x) / y) := Int.mul_nonneg_of_nonpos_of_nonpos (by omega) h3
          omega
        · have h3 : 0 ≤ (-x) / y := Int.ediv_nonneg hx' (by omega)
          have h4 : 0 ≤ y * ((-x) / y) := Int.mul_nonneg (by omega) h3
          omega
    omega
  have h0 : k.min ≤ 0 ∧ 0 ≤ k.max := by cases k <;> decide
  rcases Int.le_total 0 x with hx | hx
  · have := h1 hx; omega
  · have := h2 hx; omega

theorem fdiv_inR (k : IntKind) {x : Int} (n : Nat) (h : inR k x = true) : inR k (x.fdiv (2 ^ n)) = true := by
  unfold inR at h ⊢
  rw [decide_eq_true_eq] at h ⊢
  have hp : (0 : Int) < 2 ^ n := Int.pow_pos (by decide)
  rw [Int.fdiv_eq_ediv_of_nonneg _ (Int.le_of_lt hp)]
  have h0 : k.min ≤ 0 ∧ 0 ≤ k.max := by cases k <;> decide
  have h1 : (1 : Int) ≤ 2 ^ n := hp
  have h2 := Int.mul_ediv_add_emod x (2 ^ n)
  have h3 := Int.emod_nonneg x (Int.ne_of_gt hp)
  have h4 := Int.emod_lt_of_pos x hp
  generalize (2 : Int) ^ n = p at *
  generalize x / p = q at *
  rcases Int.le_total 0 x with hx | hx
  · have h5 : 0 ≤ q := by
      rcases Int.lt_or_le q 0 with h6 | h6
      · have h7 : p * q ≤ p * (-1) := Int.mul_le_mul_of_nonneg_left (by omega) (by omega)
        omega
      · exact h6
    have h6 : 1 * q ≤ p * q := Int.mul_le_mul_of_nonneg_right h1 h5
    omega
  · have h5 : q ≤ 0 := by
      rcases Int.lt_or_le 0 q with h6 | h6
      · have h7 : p * 1 ≤ p * q := Int.mul_le_mul_of_nonneg_left (by omega) (by omega)
        omega
      · exact h6
    have h6 : x ≤ q := by
      rcases Int.lt_or_le q x with h7 | h7
      · have h8 : (p - 1) * 1 ≤ (p - 1) * (-q) := Int.mul_le_mul_of_nonneg_left (by omega) (by omega)
        have h9 : (p - 1) * (-q) = q - p * q := by rw [Int.sub_mul, Int.mul_neg]; omega
        omega
      · exact h7
    omega

theorem binI_inR (op : BinOp) (k : IntKind) {x : Int} (y : Int) (h : inR k x = true) : inR k (binI op k x y) = true := by
  have h0 : inR k 0 = true := by cases k <;> decide
  cases op <;> simp only [binI] <;> first | exact wrap_inR _ _ | exact tmod_inR _ _ h | exact fdiv_inR _ _ h | exact h0

def dvl (bs : List Ent) (ρ : Env) : List AV → Option (List Value)
  | [] => some []
  | a :: l => (dv bs ρ a).bind fun x => (dvl bs ρ l).map fun xs => x :: xs

theorem dvs_ofList (l : List AV) : dvs bs ρ (ofList l) = dvl bs ρ l := by
  induction l with
  | nil => rfl
  | cons a l ih => simp only [ofList, dvs, dvl, ih]
theorem dvl_members : ∀ (a : AV) {vs : List Value}, dvs bs ρ a = some vs → dvl bs ρ a.members = some vs
  | .cons a b, vs, h => by
    simp only [dvs, Option.bind_eq_some_iff, Option.map_eq_some_iff] at h
    obtain ⟨x, hx, xs, hxs, rfl⟩ := h
    simp only [AV.members, dvl, hx, dvl_members b hxs, Option.bind_some, Option.map_some]
  | .nil, vs, h => h
  | .int _ _, _, h | .bool _, _, h | .str _, _, h | .ptr _ _, _, h | .sptr _ _ _ _, _, h | .nilptr, _, h | .gptr _, _, h | .slice _ _ _ _, _, h | .arg _, _, h | .mapv _, _, h | .nilmap, _, h | .erow _ _ _ _, _, h | .row _ _ _ _, _, h | .nilslice, _, h | .bstr _, _, h | .xslice _ _ _ _, _, h
  | .fn _ _, _, h | .fnx _ _, _, h | .nilFunc, _, h | .iface _ _, _, h | .nilIface, _, h | .agg _, _, h | .tuple _, _, h => by simp [dvs] at h

theorem dvl_length {l : List AV} {vs : List Value} (h : dvl bs ρ l = some vs) : vs.length = l.length := by
  induction l generalizing vs with
  | nil => cases h; rfl
  | cons a l ih =>
    simp only [dvl, Option.bind_eq_some_iff, Option.map_eq_some_iff] at h
    obtain ⟨x, hx, xs, hxs, rfl⟩ := h
    simp [ih hxs]
theorem dvl_get {l : List AV} {vs : List Value} (h : dvl bs ρ l = some vs) {i : Nat} {a : AV} (ha : l[i]? = some a) : ∃ v, vs[i]? = some v ∧ dv bs ρ a = some v := by
  induction l generalizing vs i with
  | nil => simp at ha
  | cons b l ih =>
    simp only [dvl, Option.bind_eq_some_iff, Option.map_eq_some_iff] at h
    obtain ⟨x, hx, xs, hxs, rfl⟩ := h
    cases i with
    | zero => simp at ha; subst ha; exact ⟨x, rfl, hx⟩
    | succ i => exact ih hxs (by simpa using ha)
theorem dvl_of_get {l : List AV} {vs : List Value} (hl : vs.length = l.length) (h : ∀ (i : Nat) a, l[i]? = some a → dv bs ρ a = vs[i]?) : dvl bs ρ l = some vs := by
  induction l generalizing vs with
  | nil => cases vs <;> simp_all [dvl]
  | cons a l ih =>
    cases vs with
    | nil => simp at hl
    | cons v vs =>
      have h0 := h 0 a rfl
      simp only [List.getElem?_cons_zero] at h0
      have h1 := ih (vs := vs) (by simpa using hl) (fun i b hb => by simpa using h (i + 1) b (by simpa using hb))
      simp [dvl, h0, h1]
theorem dvl_append {l m : List AV} {vs us : List Value} (h : dvl bs ρ l = some vs) (h' : dvl bs ρ m = some us) : dvl bs ρ (l ++ m) = some (vs ++ us) := by
  induction l generalizing vs with
  | nil => cases h; exact h'
  | cons a l ih =>
    simp only [dvl, Option.bind_eq_some_iff, Option.map_eq_some_iff] at h
    obtain ⟨x, hx, xs, hxs, rfl⟩ := h
    simp [dvl, hx, ih hxs]
theorem dvl_take {l : List AV} {vs : List Value} (h : dvl bs ρ l = some vs) (n : Nat) : dvl bs ρ (l.take n) = some (vs.take n) := by
  induction l generalizing vs n with
  | nil => cases h; simp [dvl]
  | cons a l ih =>
    simp only [dvl, Option.bind_eq_some_iff, Option.map_eq_some_iff] at h
    obtain ⟨x, hx, xs, hxs, rfl⟩ := h
    cases n with
    | zero => simp [dvl]
    | succ n => simp [dvl, hx, ih hxs]
theorem dvl_drop {l : List AV} {vs : List Value} (h : dvl bs ρ l = some vs) (n : Nat) : dvl bs ρ (l.drop n) = some (vs.drop n) := by
  induction l generalizing vs n with
  | nil => cases h; simp [dvl]
  | cons a l ih =>
    cases n with
    | zero => simpa using h
    | succ n =>
      simp only [dvl, Option.bind_eq_some_iff, Option.map_eq_some_iff] at h
      obtain ⟨x, hx, xs, hxs, rfl⟩ := h
      simpa using ih hxs n

theorem ofInts_sound : ∀ {l : List Value} {a : AV}, ofInts l = some a → dvs bs ρ a = some l
  | [], a, h => by cases h; rfl
  | v :: l, a, h => by
    unfold ofInts at h
    split at h <;> first | (simp at h; done) | skip
    all_goals (rename_i heq; first | (cases heq; done) | skip)
    all_goals (
      simp only [List.cons.injEq] at heq
      obtain ⟨rfl, rfl⟩ := heq)
    · split at h
      · rename_i hr
        simp only [Option.map_eq_some_iff] at h
        obtain ⟨b, hb, rfl⟩ := h
        simp [dvs, dv_int_mk (e := .lit _) hr, ofInts_sound hb]
      · cases h
    all_goals (
      simp only [Option.map_eq_some_iff] at h
      obtain ⟨b, hb, rfl⟩ := h
      simp [dvs, dv, ofInts_sound hb, evB_lit_ofB])

theorem ofV_sound {v : Value} {a : AV} (h : ofV v = some a) : dv bs ρ a = some v := by
  unfold ofV at h
  split at h
  · split at h
    · rename_i hr; cases h; exact dv_int_mk (e := .lit _) hr
    · cases h
  all_goals first
    | (cases h; done)
    | (cases h; simp [dv, evB_lit_ofB]; done)
    | (simp only [Option.map_eq_some_iff] at h
       obtain ⟨b, hb, rfl⟩ := h
       simp [dv, ofInts_sound hb])

theorem dv_cells {a : AV} {v : Value} (h : dv bs ρ a = some v) : dvl bs ρ a.cells = some v.cells.toList := by
  cases a
  case agg l =>
    simp only [dv, Option.map_eq_some_iff] at h
    obtain ⟨vs, hvs, rfl⟩ := h
    simpa [AV.cells, Value.cells] using dvl_members l hvs
  all_goals first
    | (cases h; done)
    | skip
  all_goals (
    have hv : v.cells = #[v] := by
      first
        | (obtain ⟨rfl, _⟩ := dv_int h; rfl)
        | (simp only [dv, Option.some.injEq] at h; subst h; exact xsV_cells _ _ _ _)
        | (simp only [dv, Option.some.injEq] at h; subst h; rfl)
        | (simp only [dv] at h; split at h <;> cases h; rfl)
        | (cases h; rfl)
        | (obtain ⟨b, _, _, rfl⟩ := dv_row h; rfl)
        | (simp only [dv, Option.map_eq_some_iff] at h
           obtain ⟨x, _, rfl⟩ := h
           first | rfl | (split <;> rfl))
    simp [AV.cells, dvl, h, hv])

/-! ### memory -/
def colV (ρ : Env) (i : Int) : Col → Value
  | .int k g => .int k (ρ.f g [i])
  | .bool g => .bool (ρ.f g [i] != 0)
  | .sl b o n c => xsV (ρ.f b [i]) (ρ.f o [i]) (ρ.f n [i]) (ρ.f c [i])
def colOk (ρ : Env) (i : Int) : Col → Bool
  | .int k g => inR k (ρ.f g [i])
  | _ => true
theorem dv_colA {i : SE} {p : Col} (h : colOk ρ (den ρ i) p = true) : dv bs ρ (colA i p) = some (colV ρ (den ρ i) p) := by
  cases p with
  | int k g => exact dv_int_mk (e := .app g (.cons i .nil)) h
  | bool g => rfl
  | sl b o n c => rfl
/-- A map's entries, in whatever order they came. -/
def mkE (p : (MK × Value) × Nat) : MapEntry := ⟨p.1.1.val, p.1.2, p.2⟩
def MapIs (es : Array MapEntry) (clock : Nat) (ks : List MK) (us : List Value) : Prop :=
  ∃ l : List ((MK × Value) × Nat), es.toList = l.map mkE ∧ (l.map (·.1)).Perm (ks.zip us) ∧ (l.map (·.2)).Nodup ∧ ∀ p ∈ l, p.2 < clock
def ORel (bs : List Ent) (ρ : Env) (w : World) (b : Ent) : AObj → Prop
  | .cells c ty _ grow => ∃ vs tail, dvl bs ρ c = some vs ∧ (∃ pre : List Value, w.heap[b.blk]? = some (.cells (pre ++ (vs ++ tail)).toArray ty (0, 0)) ∧ pre.length = b.base) ∧
      (∀ s, grow = some s → (vs ++ tail).length = b.cap * s ∧ b.cap ≤ maxLen)
  | .mp ks vs => ∃ us es clock, dvl bs ρ vs = some us ∧ (ks.Nodup ∧ ks.all MK.ok = true) ∧ ks.length = us.length ∧ w.heap[b.blk]? = some (.map es clock) ∧ MapIs es clock ks us
  | .iter m => ∃ bm since, bs[m]? = some bm ∧ w.heap[b.blk]? = some (.mapIter (some bm.blk) since #[] since) ∧ b.base = 0
  | .siter s pos => w.heap[b.blk]? = some (.stringIter s pos) ∧ b.base = 0
  | .dead => True
  | .sym n cap row ty => b.len = (den ρ n).toNat ∧ b.cap = (den ρ cap).toNat ∧ 0 ≤ den ρ n ∧ den ρ n ≤ den ρ cap ∧ den ρ cap ≤ 9223372036854775807 ∧
      (0 < den ρ cap → b.addr = some ⟨b.blk, b.base, none⟩ ∧ b.blk < w.heap.size ∧
        ∀ (i j : Nat) p, i < (den ρ cap).toNat → row[j]? = some p → w.cell? ⟨b.blk, b.base + (i * row.length + j), none⟩ = some (colV ρ i p) ∧ colOk ρ i p = true)
theorem dvl_key (l : List (IntKind × Int)) (h : (l.all fun p => inR p.1 p.2) = true) : dvl bs ρ (l.map fun p => AV.int p.1 (.lit p.2)) = some (l.map fun p => Value.int p.1 p.2) := by
  induction l with
  | nil => rfl
  | cons p l ih =>
    simp only [List.all_cons, Bool.and_eq_true] at h
    have e1 : dv bs ρ (AV.int p.1 (.lit p.2)) = some (.int p.1 p.2) := dv_int_mk (e := .lit p.2) h.1
    simp only [List.map_cons, dvl, e1, Option.bind_some, ih h.2, Option.map_some]
theorem dv_key {k : MK} (h : k.ok = true) : dv bs ρ k.av = some k.val := by
  cases k with
  | s b => rfl
  | i k n => exact dv_int_mk (e := .lit n) h
  | a l => simp only [MK.av, dv, dvs_ofList, dvl_key l h, Option.map_some, MK.val]
theorem cells_at {w : World} {g o : Nat} {pre l : List Value} {ty : TypeId} (hheap : w.heap[g]? = some (.cells (pre ++ l).toArray ty (0, 0))) (hp : pre.length = o) {j : Nat} {v : Value} (h : l[j]? = some v) : w.cell? ⟨g, o + j, none⟩ = some v := by
  subst hp
  simp only [World.cell?, hheap]
  simp only [Option.isSome_none, Bool.false_eq_true, if_false, List.getElem?_toArray]
  rw [List.getElem?_append_right (by omega), show pre.length + j - pre.length = j by omega]
  exact h
def MRel (bs : List Ent) (ρ : Env) (mem : List AObj) (w : World) : Prop :=
  ∀ (i : Nat) o, mem[i]? = some o → ∃ b, bs[i]? = some b ∧ ORel bs ρ w b o

section
variable {P : Program} {w : World}

theorem run_sizeA {t : TypeId} {n : Nat} (h : sizeA P t = some n) : (sizeOf t).run P w = .ok n w := by
  simp only [sizeA, Option.map_eq_some_iff] at h
  obtain ⟨i, hi, rfl⟩ := h
  simp [sizeOf, typeInfo, hi]

theorem partA_sound {t : TypeId} {cs : List AV} {off : Nat} {a : AV} {vs : List Value} (hc : dvl bs ρ cs = some vs) (h : partA P t cs off = some a) :
    ∃ v, dv bs ρ a = some v ∧ (part t vs.toArray off).run P w = .ok v w := by
  have hlen := dvl_length hc
  unfold partA at h
  cases hu : P.underlying t with
  | none => rw [hu] at h; cases hi : P.info? t <;> rw [hi] at h <;> simp at h
  | some d =>
    rw [hu] at h
    have agg : (∀ i, P.info? t = some i → off + i.size ≤ cs.length → a = .agg (ofList ((cs.drop off).take i.size)) → (isAgg t).run P w = .ok true w →
        ∃ v, dv bs ρ a = some v ∧ (part t vs.toArray off).run P w = .ok v w) := by
      rintro i hi hle rfl hagg
      refine ⟨.agg (vs.toArray.extract off (off + i.size)), ?_, ?_⟩
      · simp only [dv, dvs_ofList, dvl_take (dvl_drop hc off) i.size, Option.map_some]
        congr 2
        apply Array.ext'
        simp
      · simp [part, hagg, sizeOf, typeInfo, hi]
    have one : (isAgg t).run P w = .ok false w → cs[off]? = some a → ∃ v, dv bs ρ a = some v ∧ (part t vs.toArray off).run P w = .ok v w := by
      intro hagg ha
      obtain ⟨v, hv, hd⟩ := dvl_get hc ha
      exact ⟨v, hd, by simp [part, hagg, hv]⟩
    cases d
    case struct fs =>
      cases hi : P.info? t with
      | none => rw [hi] at h; simp at h
      | some i =>
        rw [hi] at h
        simp only at h
        split at h
        · exact agg i hi ‹_› (by simpa using h.symm) (by simp [isAgg, run_underlying hu])
        · simp at h
    case array n e =>
      cases hi : P.info? t with
      | none => rw [hi] at h; simp at h
      | some i =>
        rw [hi] at h
        simp only at h
        split at h
        · exact agg i hi ‹_› (by simpa using h.symm) (by simp [isAgg, run_underlying hu])
        · simp at h
    all_goals exact one (by simp [isAgg, run_underlying hu]) (by cases hi : P.info? t <;> (rw [hi] at h; simpa using h))

end
end Go.SX

/- Symbolic execution of the model's code, part 4: each operation that only computes or reads does what part 2 says. -/
namespace Go.SX
set_option linter.unusedSimpArgs false
set_option linter.unusedVariables false
variable {bs : List Ent} {ρ : Env} {P : Program} {w : World}

theorem run_bin_int (op : BinOp) (t : TypeId) (k : IntKind) (a b : Int) (hs : isShift op = false) (hd : isDiv op = true → b ≠ 0) (hc : isCmp op = false) :
    (binOp op t (.int k a) (.int k b)).run P w = .ok (.int k (binI op k a b)) w := by
  cases op <;> simp [isShift, isCmp] at hs hc <;> simp [binOp, Op.intArith, Op.intBits, Op.intDiv, binI]
  all_goals (have h0 := hd rfl; simp [h0])
theorem run_bin_cmp (op : BinOp) (t : TypeId) (k : IntKind) (a b : Int) (hc : isCmp op = true) :
    (binOp op t (.int k a) (.int k b)).run P w = .ok (.bool (cmpI op a b)) w := by
  cases op <;> simp [isCmp] at hc <;> simp [binOp, Op.intCmp, cmpI]
theorem run_bin_shift (op : BinOp) (t : TypeId) (k k' : IntKind) (a b : Int) (hc : isShift op = true) (hb : 0 ≤ b) :
    (binOp op t (.int k a) (.int k' b)).run P w = .ok (.int k (binI op k a b)) w := by
  have hb' : ¬ b < 0 := by omega
  cases op <;> simp [isShift] at hc <;> simp [binOp, Op.shift, binI, hb']

theorem toList_beqT (a b : ByteArray) : (a.toList == b.toList) = beqT a b := by
  rw [Bool.eq_iff_iff, beqT_iff, beq_iff_eq, ByteArray.toList_eq, ByteArray.toList_eq]
  obtain ⟨⟨x⟩⟩ := a
  obtain ⟨⟨y⟩⟩ := b
  simp
theorem eqS_sound {t : TypeId} {x y : AV} {c : SE} {u v : Value} (hx : dv bs ρ x = some u) (hy : dv bs ρ y = some v) (h : eqS P t x y = some c) (d : Nat) :
    (Op.equalIn (d + 1) t u v).run P w = .ok (evB ρ c) w := by
  unfold eqS at h
  split at h
  · rename_i k0 k a k' b hu
    split at h
    · rename_i hk
      subst hk
      cases h
      obtain ⟨rfl, _⟩ := dv_int hx
      obtain ⟨rfl, _⟩ := dv_int hy
      simp [Op.equalIn, run_underlying hu, evB_mkCmp, cmpI]
    · cases h
  · rename_i a b hu
    cases h; cases hx; cases hy
    simp [Op.equalIn, run_underlying hu, evB_mkCmp, den_mkNot, cmpI]
    cases evB ρ a <;> cases evB ρ b <;> rfl
  · rename_i a b hu
    cases h; cases hx; cases hy
    simp [Op.equalIn, run_underlying hu, evB_lit_ofB, beq_toListBytes, toList_beqT]
  · rename_i hu; cases h; cases hx; cases hy
    simp [Op.equalIn, run_underlying hu, evB, den]
  · rename_i hu; cases h; cases hx
    simp only [dv, Option.map_eq_some_iff] at hy
    obtain ⟨b, _, rfl⟩ := hy
    simp [Op.equalIn, run_underlying hu, evB, den]
  · rename_i hu; cases h; cases hy
    simp only [dv, Option.map_eq_some_iff] at hx
    obtain ⟨b, _, rfl⟩ := hx
    simp [Op.equalIn, run_underlying hu, evB, den]
  · rename_i hu; cases h; cases hx; cases hy
    simp [Op.equalIn, run_underlying hu, evB, den]
  · rename_i hu; cases h; cases hy
    obtain ⟨b, _, _, rfl⟩ := dv_row hx
    simp [Op.equalIn, run_underlying hu, evB, den]
  · rename_i hu; cases h; cases hy
    simp only [dv, Option.map_eq_some_iff] at hx
    obtain ⟨b, _, rfl⟩ := hx
    simp [Op.equalIn, run_underlying hu, evB, den]
  · cases h

theorem eqF_sound {xs ys : List AV} {us vs : List Value} (hx : dvl bs ρ xs = some us) (hy : dvl bs ρ ys = some vs) (d : Nat) :
    ∀ {fs : List Field} {c : SE}, eqF P xs ys fs = some c → (Op.eqFields (d + 1) us.toArray vs.toArray fs).run P w = .ok (evB ρ c) w
  | [], c, h => by cases h; simp [Op.eqFields, evB, den]
  | f :: fs, c, h => by
    unfold eqF at h
    split at h
    · rename_i hn
      simp only [Option.bind_eq_some_iff, Option.map_eq_some_iff] at h
      obtain ⟨a, ha, b, hb, c1, hc1, c2, hc2, rfl⟩ := h
      obtain ⟨u, hu, hru⟩ := partA_sound (w := w) hx ha
      obtain ⟨v, hv, hrv⟩ := partA_sound (w := w) hy hb
      have he := eqS_sound (w := w) hu hv hc1 d
      have ih := eqF_sound hx hy d hc2
      simp only [Op.eqFields, hn, if_true, ne_eq, not_false_eq_true, Sem.run_bind, hru, hrv, he, Result.andThen_ok, evB_mkAnd]
      cases h1 : evB ρ c1 <;> simp [ih]
    · rename_i hn
      have ih := eqF_sound hx hy d h
      simp only [Op.eqFields, hn, if_false, ih]

theorem fieldsOf_spec {t : TypeId} {fs : List Field} (h : fieldsOf P t = some fs) : P.underlying t = some (.struct fs.toArray) := by
  unfold fieldsOf at h
  split at h
  · cases h; simpa
  · cases h

theorem eqA_sound {t : TypeId} {x y : AV} {c : SE} {u v : Value} (hx : dv bs ρ x = some u) (hy : dv bs ρ y = some v) (h : eqA P t x y = some c) :
    (∀ op a b w, (eqGuard op t a b u v).run P w = .ok () w) ∧ (∀ w, (Op.equal t u v).run P w = .ok (evB ρ c) w) ∧
    (∀ k n, u ≠ .int k n) ∧ (∀ s, u = .string s → ∀ s', v ≠ .string s') ∧ (∀ k n, u ≠ .float k n) ∧ (∀ k n m, u ≠ .complex k n m) := by
  unfold eqA at h
  split at h
  · rename_i xs ys
    split at h
    · cases h
    · rename_i hp
      simp only [Bool.or_eq_true, not_or, Bool.not_eq_true] at hp
      simp only [Option.bind_eq_some_iff] at h
      obtain ⟨fs, hfs, h⟩ := h
      simp only [dv, Option.map_eq_some_iff] at hx hy
      obtain ⟨us, hus, rfl⟩ := hx
      obtain ⟨vs, hvs, rfl⟩ := hy
      have ht := fieldsOf_spec hfs
      have hf : P.fieldsOf t = fs.toArray := by unfold Program.fieldsOf; rw [ht]
      refine ⟨fun op a b w => run_eqGuard_agg w op t a b _ _ hp.2, fun w => ?_, by simp, by simp, by simp, by simp⟩
      have := run_equalIn_struct (P := P) w 9999 t us.toArray vs.toArray (by rw [hf]; exact ht) hp.1
      rw [hf] at this
      show (Op.equalIn (9999 + 1) t _ _).run P w = _
      rw [this]
      exact eqF_sound (dvl_members xs hus) (dvl_members ys hvs) 9998 h
  · cases h
  · cases h
  · rename_i h1 h2 h3
    have key : ∀ w, (Op.equal t u v).run P w = .ok (evB ρ c) w := fun w => eqS_sound hx hy h 9999
    refine ⟨?_, key, ?_⟩
    all_goals
      unfold eqS at h
      split at h
    all_goals first
      | (cases h; done)
      | (exact absurd rfl (h2 _ _ _ _ rfl))
      | (exact absurd rfl (h3 _ _ rfl))
      | skip
    all_goals first
      | (obtain ⟨b, _, _, rfl⟩ := dv_row hx; exact fun op a b w => by rw [eqGuard_at_slice]; rfl)
      | (obtain ⟨b, _, _, rfl⟩ := dv_row hx; simp; done)
      | simp only [dv, Option.map_eq_some_iff, Option.some.injEq] at hx hy
    all_goals first
      | done
      | (obtain ⟨b, _, rfl⟩ := hx; exact fun op a b w => by rw [eqGuard_at_pointer]; rfl)
      | (obtain ⟨b, _, rfl⟩ := hx; exact fun op a b w => by rw [eqGuard_at_slice]; rfl)
      | (obtain ⟨b, _, rfl⟩ := hx; simp; done)
      | (subst hx; exact fun op a b w => by first | (rw [eqGuard_at_pointer]; rfl) | (rw [eqGuard_at_bool]; rfl) | (rw [eqGuard_at_slice]; rfl))
      | (subst hx; simp; done)
      | skip

theorem dv_bstr {l : SE} {v : Value} (h : dv bs ρ (.bstr l) = some v) : v = .string ⟨((dens ρ l).map fun n => n.toNat.toUInt8).toArray⟩ ∧ (dens ρ l).all (inR .u8) = true := by
  simp only [dv] at h
  split at h
  · rename_i hr; cases h; exact ⟨rfl, hr⟩
  · cases h
theorem u8_inR {n : Int} (h : inR .u8 n = true) : 0 ≤ n ∧ n ≤ 255 := by
  unfold inR at h
  rw [decide_eq_true_eq] at h
  have h1 : IntKind.u8.min = 0 := rfl
  have h2 : IntKind.u8.max = 255 := by decide
  omega
theorem eqBytes_sound : ∀ {a b : SE}, chain a = true → chain b = true → (dens ρ a).all (inR .u8) = true → (dens ρ b).all (inR .u8) = true →
    evB ρ (eqBytes a b) = ((dens ρ a).map (fun n => n.toNat.toUInt8) == (dens ρ b).map fun n => n.toNat.toUInt8)
  | .cons a r, .cons b s, ha, hb, h1, h2 => by
    simp only [dens, List.all_cons, Bool.and_eq_true] at h1 h2
    simp only [eqBytes, evB_mkAnd, evB_mkCmp, dens, List.map_cons, List.cons_beq_cons, eqBytes_sound (a := r) (b := s) ha hb h1.2 h2.2, cmpI]
    congr 1
    have e1 := u8_inR h1.1
    have e2 := u8_inR h2.1
    rw [Bool.eq_iff_iff]
    simp only [beq_iff_eq]
    constructor
    · intro h; rw [h]
    · intro h
      have := congrArg UInt8.toNat h
      simp only [Nat.toUInt8, UInt8.toNat_ofNat'] at this
      omega
  | .nil, .nil, _, _, _, _ => rfl
  | .cons _ _, .nil, _, _, _, _ => rfl
  | .nil, .cons _ _, _, _, _, _ => rfl
  | .cons _ _, .lit _, _, hb, _, _ | .cons _ _, .var _, _, hb, _, _ | .cons _ _, .bin _ _ _ _, _, hb, _, _ | .cons _ _, .conv _ _, _, hb, _, _ | .cons _ _, .cmp _ _ _, _, hb, _, _ | .cons _ _, .not _, _, hb, _, _
  | .cons _ _, .and _ _, _, hb, _, _ | .cons _ _, .mx _ _, _, hb, _, _ | .cons _ _, .mn _ _, _, hb, _, _ | .cons _ _, .app _ _, _, hb, _, _ => by cases hb
  | .nil, .lit _, _, hb, _, _ | .nil, .var _, _, hb, _, _ | .nil, .bin _ _ _ _, _, hb, _, _ | .nil, .conv _ _, _, hb, _, _ | .nil, .cmp _ _ _, _, hb, _, _ | .nil, .not _, _, hb, _, _
  | .nil, .and _ _, _, hb, _, _ | .nil, .mx _ _, _, hb, _, _ | .nil, .mn _ _, _, hb, _, _ | .nil, .app _ _, _, hb, _, _ => by cases hb
  | .lit _, _, ha, _, _, _ | .var _, _, ha, _, _, _ | .bin _ _ _ _, _, ha, _, _, _ | .conv _ _, _, ha, _, _, _ | .cmp _ _ _, _, ha, _, _, _ | .not _, _, ha, _, _, _
  | .and _ _, _, ha, _, _, _ | .mx _ _, _, ha, _, _, _ | .mn _ _, _, ha, _, _, _ | .app _ _, _, ha, _, _, _ => by cases ha

theorem binA_sound {op : BinOp} {t : TypeId} {x y : AV} {reqs : List SE} {r : AV} {u v : Value} (hx : dv bs ρ x = some u) (hy : dv bs ρ y = some v)
    (h : binA P op t x y = some (reqs, r)) (hr : ∀ c ∈ reqs, evB ρ c = true) :
    ∃ z, dv bs ρ r = some z ∧ ∀ a b (w : World), ((do eqGuard op t a b u v; binOp op t u v : Sem Value)).run P w = .ok z w := by
  unfold binA at h
  split at h
  · rename_i k a k' b
    obtain ⟨rfl, ha⟩ := dv_int hx
    obtain ⟨rfl, hb⟩ := dv_int hy
    have mk : ∀ op, dv bs ρ (.int k (mkBin op k a b)) = some (.int k (binI op k (den ρ a) (den ρ b))) := fun op => by
      have := binI_inR op k (den ρ b) ha
      rw [← den_mkBin] at this
      rw [dv_int_mk this, den_mkBin]
    split at h
    · rename_i hs
      cases h
      have h0 : 0 ≤ den ρ b := by
        have := hr _ (List.mem_singleton.2 rfl)
        rw [evB_mkCmp] at this
        simpa [cmpI, den] using this
      exact ⟨_, mk op, fun x y w => by simp [eqGuard_at_int, run_bin_shift op t k k' _ _ hs h0]⟩
    · rename_i hs
      split at h
      · rename_i hk
        subst hk
        split at h
        · rename_i hd
          cases h
          have h0 : den ρ b ≠ 0 := by
            have := hr _ (List.mem_singleton.2 rfl)
            rw [evB_mkCmp] at this
            simpa [cmpI, den] using this
          have hc : isCmp op = false := by cases op <;> simp_all [isDiv, isCmp]
          exact ⟨_, mk op, fun x y w => by simp [eqGuard_at_int, run_bin_int op t k _ _ (by simpa using hs) (fun _ => h0) hc]⟩
        · rename_i hd
          split at h
          · rename_i hc
            cases h
            exact ⟨_, rfl, fun x y w => by simp [eqGuard_at_int, run_bin_cmp op t k _ _ hc, evB_mkCmp]⟩
          · rename_i hc
            cases h
            exact ⟨_, mk op, fun x y w => by simp [eqGuard_at_int, run_bin_int op t k _ _ (by simpa using hs) (fun h => absurd h hd) (by simpa using hc)]⟩
      · cases h
  · rename_i a b
    obtain ⟨rfl, ha⟩ := dv_bstr hx
    obtain ⟨rfl, hb⟩ := dv_bstr hy
    have key : chain a = true → chain b = true → (ByteArray.toList ⟨((dens ρ a).map fun n => n.toNat.toUInt8).toArray⟩ == ByteArray.toList ⟨((dens ρ b).map fun n => n.toNat.toUInt8).toArray⟩) = evB ρ (eqBytes a b) := fun h1 h2 => by
      rw [ByteArray.toList_eq, ByteArray.toList_eq, eqBytes_sound h1 h2 ha hb]
    split at h
    · split at h
      · rename_i hc
        simp only [Bool.and_eq_true] at hc
        cases h
        exact ⟨_, rfl, fun x y w => by simp only [eqGuard_at_string, binOp, Op.stringOp, pure_bind, key hc.1 hc.2, Sem.run_pure]⟩
      · cases h
    · split at h
      · rename_i hc
        simp only [Bool.and_eq_true] at hc
        cases h
        exact ⟨_, rfl, fun x y w => by simp only [eqGuard_at_string, binOp, Op.stringOp, pure_bind, key hc.1 hc.2, Sem.run_pure, evB_mkNot]⟩
      · cases h
    · cases h
  · rename_i a b
    cases hx; cases hy
    split at h
    · cases h
      exact ⟨_, rfl, fun x y w => by simp [eqGuard_at_string, binOp, Op.stringOp, evB_lit_ofB, beq_toListBytes, toList_beqT]⟩
    · cases h
      exact ⟨_, rfl, fun x y w => by simp [eqGuard_at_string, binOp, Op.stringOp, evB_lit_ofB, beq_toListBytes, toList_beqT]⟩
    · cases h
  · rename_i h1 h2 h3
    split at h
    · simp only [Option.map_eq_some_iff, Prod.mk.injEq] at h
      obtain ⟨c, hc, rfl, rfl⟩ := h
      obtain ⟨hg, he, n1, n2, n3, n4⟩ := eqA_sound hx hy hc
      refine ⟨_, rfl, fun a b w => ?_⟩
      have : binOp .eql t u v = (do pure (.bool (← Op.equal t u v))) := by
        unfold binOp
        split <;> first | rfl | (simp_all; done)
      simp [hg, this, he]
    · simp only [Option.map_eq_some_iff, Prod.mk.injEq] at h
      obtain ⟨c, hc, rfl, rfl⟩ := h
      obtain ⟨hg, he, n1, n2, n3, n4⟩ := eqA_sound hx hy hc
      refine ⟨_, rfl, fun a b w => ?_⟩
      have : binOp .neq t u v = (do pure (.bool (!(← Op.equal t u v)))) := by
        unfold binOp
        split <;> first | rfl | (simp_all; done)
      simp [hg, this, he, evB_mkNot]
    · cases h

theorem unA_sound {op : UnOp} {x r : AV} {u : Value} (hx : dv bs ρ x = some u) (h : unA op x = some r) :
    ∃ z, dv bs ρ r = some z ∧ ∀ w : World, (Op.unary op u).run P w = .ok z w := by
  unfold unA at h
  split at h
  · rename_i k a
    cases h
    obtain ⟨rfl, _⟩ := dv_int hx
    have h1 : inR k (den ρ (mkBin .sub k (.lit 0) a)) = true := by rw [den_mkBin]; exact wrap_inR _ _
    exact ⟨_, dv_int_mk h1, fun w => by simp [Op.unary, Op.intArith, den_mkBin, binI, den]⟩
  · rename_i k a
    cases h
    obtain ⟨rfl, _⟩ := dv_int hx
    have h1 : inR k (den ρ (mkBin .xor k (.lit (if k.signed then -1 else k.max)) a)) = true := by rw [den_mkBin]; exact wrap_inR _ _
    exact ⟨_, dv_int_mk h1, fun w => by simp [Op.unary, Op.intBits, den_mkBin, binI, den]⟩
  · cases h; cases hx
    exact ⟨_, rfl, fun w => by simp [Op.unary, evB_mkNot]⟩
  · cases h

theorem convA_sound {src dst : TypeId} {x r : AV} {u : Value} (hx : dv bs ρ x = some u) (h : convA P src dst x = some r) :
    ∃ z, dv bs ρ r = some z ∧ ∀ w : World, (convert src dst u).run P w = .ok z w := by
  unfold convA at h
  split at h
  · rename_i d k k' a hs hd
    cases h
    obtain ⟨rfl, _⟩ := dv_int hx
    have h1 : inR k (den ρ (mkConv k a)) = true := by rw [den_mkConv]; exact wrap_inR _ _
    exact ⟨_, dv_int_mk h1, fun w => by simp [convert, run_underlying hs, run_underlying hd, Conv.intToInt, den_mkConv]⟩
  · rename_i s hs hd
    cases h; cases hx
    exact ⟨_, rfl, fun w => by simp [convert, run_underlying hs, run_underlying hd]⟩
  · cases h

theorem underlying_of_fields {t : TypeId} {fs : List Field} (h : fieldsOf P t = some fs) (w : World) : (underlying t).run P w = .ok (.struct fs.toArray) w :=
  run_underlying (fieldsOf_spec h) w

theorem fieldAddrA_sound {t : TypeId} {x r : AV} {f : Nat} {u : Value} (hx : dv bs ρ x = some u) (h : fieldAddrA P t x f = some r) :
    ∃ z, dv bs ρ r = some z ∧ ∀ w : World, (Instr.fieldAt t u f).run P w = .ok z w := by
  unfold fieldAddrA at h
  simp only [Option.bind_eq_some_iff] at h
  obtain ⟨fs, hfs, fd, hfd, h⟩ := h
  split at h
  · rename_i n hsz
    split at h
    · cases h
      simp only [dv, Option.map_eq_some_iff] at hx
      obtain ⟨b, hb, rfl⟩ := hx
      exact ⟨_, by simp only [dv, hb, Option.map_some]; rfl, fun w => by simp [Instr.fieldAt, underlying_of_fields hfs, hfd, Instr.sureAddr, fieldPlace, run_sizeA hsz, Addr.add_lit, Nat.add_assoc]⟩
    · cases h
      simp only [dv, Option.map_eq_some_iff] at hx
      obtain ⟨b, hb, rfl⟩ := hx
      exact ⟨_, by simp only [dv, hb, Option.map_some]; rfl, fun w => by simp [Instr.fieldAt, underlying_of_fields hfs, hfd, Instr.sureAddr, fieldPlace, run_sizeA hsz, Addr.add_lit, Nat.add_assoc]⟩
    · cases h
  · cases h

theorem fieldA_sound {t : TypeId} {x r : AV} {f : Nat} {u : Value} (hx : dv bs ρ x = some u) (h : fieldA P t x f = some r) :
    ∃ z, dv bs ρ r = some z ∧ (Instr.field t u f).run P w = .ok z w := by
  unfold fieldA at h
  split at h
  · simp only [Option.bind_eq_some_iff] at h
    obtain ⟨fs, hfs, fd, hfd, h⟩ := h
    simp only [dv, Option.map_eq_some_iff] at hx
    obtain ⟨vs, hvs, rfl⟩ := hx
    obtain ⟨z, hz, hrun⟩ := partA_sound (w := w) (dvl_members _ hvs) h
    exact ⟨z, hz, by simp [Instr.field, underlying_of_fields hfs, hfd, asAgg, hrun]⟩
  · cases h

theorem indexAddrA_sound {mem : List AObj} {t : TypeId} {x i r : AV} {reqs : List SE} {u v : Value} (hm : MRel bs ρ mem w) (hx : dv bs ρ x = some u) (hi : dv bs ρ i = some v)
    (h : indexAddrA P mem t x i = some (reqs, r)) (hr : ∀ c ∈ reqs, evB ρ c = true) : ∃ z, dv bs ρ r = some z ∧ ∀ w : World, (Instr.indexAt t u v).run P w = .ok z w := by
  unfold indexAddrA at h
  split at h
  · rename_i n e id off k j hu
    split at h
    · rename_i s hs
      split at h
      · rename_i hj
        cases h
        obtain ⟨rfl, hir⟩ := dv_int hi
        clear hir
        simp only [dv, Option.map_eq_some_iff] at hx
        obtain ⟨b, hb, rfl⟩ := hx
        exact ⟨_, by simp only [dv, hb, Option.map_some]; rfl, fun w => by simp [Instr.indexAt, run_underlying hu, asIntOf, Instr.sureAddr, den, hj, run_sizeA hs, Addr.add_lit, Nat.add_assoc]⟩
      · cases h
    · cases h
  · rename_i e id off len cap k ix hu
    simp only [dv, Option.map_eq_some_iff] at hx
    obtain ⟨b, hb, rfl⟩ := hx
    obtain ⟨rfl, hir⟩ := dv_int hi
    clear hir
    split at h
    · rename_i s hs
      split at h
      · rename_i j
        split at h
        · rename_i hj
          cases h
          have h1 := hr _ (List.mem_singleton.2 rfl)
          rw [evB_mkCmp] at h1
          replace h1 : j < den ρ len := of_decide_eq_true h1
          refine ⟨_, by simp only [dv, hb, Option.map_some]; rfl, fun w => ?_⟩
          have h2 : j < ((den ρ len).toNat : Int) := by omega
          generalize (den ρ len).toNat = m at h2
          simp [Instr.indexAt, run_underlying hu, asIntOf, den, hj, h2, run_sizeA hs, Addr.add_lit, Nat.add_assoc]
        · cases h
      · split at h
        · rename_i h0
          cases h
          have h1 := hr _ (List.mem_cons_self ..)
          have h2 := hr _ (List.mem_cons_of_mem _ (List.mem_singleton.2 rfl))
          rw [evB_mkCmp] at h1 h2
          replace h1 : 0 ≤ den ρ ix := of_decide_eq_true h1
          replace h2 : den ρ ix < den ρ len := of_decide_eq_true h2
          refine ⟨_, by simp only [dv, hb, Option.map_some]; rfl, fun w => ?_⟩
          have h3 : den ρ ix < ((den ρ len).toNat : Int) := by omega
          generalize (den ρ len).toNat = m at h3
          clear h2 hr
          simp [Instr.indexAt, run_underlying hu, asIntOf, h1, h3, run_sizeA hs, Addr.add_lit, h0, Nat.add_assoc]
        · cases h
    · cases h
  · rename_i e id k ix hu
    simp only [dv, Option.map_eq_some_iff] at hx
    obtain ⟨b, hb, rfl⟩ := hx
    obtain ⟨rfl, hir⟩ := dv_int hi
    clear hir
    split at h
    · rename_i s n cap row ty hs ho
      obtain ⟨b', hb', e1, e2, e3, e4, e5, e6⟩ := hm _ _ ho
      rw [hb] at hb'; cases hb'
      split at h
      · rename_i j
        split at h
        · rename_i hj
          cases h
          have h1 := hr _ (List.mem_singleton.2 rfl)
          rw [evB_mkCmp] at h1
          replace h1 : j < den ρ n := of_decide_eq_true h1
          obtain ⟨e7, _⟩ := e6 (by omega)
          refine ⟨_, by simp only [dv, hb, Option.map_some]; rfl, fun w => ?_⟩
          have h2 : j < (b.len : Int) := by omega
          simp [Instr.indexAt, run_underlying hu, asIntOf, den, hj, h2, run_sizeA hs, Addr.add_lit, e7]
        · cases h
      · cases h
        have h1 := hr _ (List.mem_cons_self ..)
        have h2 := hr _ (List.mem_cons_of_mem _ (List.mem_singleton.2 rfl))
        rw [evB_mkCmp] at h1 h2
        replace h1 : 0 ≤ den ρ ix := of_decide_eq_true h1
        replace h2 : den ρ ix < den ρ n := of_decide_eq_true h2
        obtain ⟨e7, _⟩ := e6 (by omega)
        refine ⟨_, by simp only [dv, hb, Option.map_some]; rfl, fun w => ?_⟩
        have h3 : den ρ ix < (b.len : Int) := by omega
        simp [Instr.indexAt, run_underlying hu, asIntOf, h1, h3, run_sizeA hs, Addr.add_lit, e7]
    · cases h
  · rename_i e id off len skip k ix hu
    obtain ⟨b, hb, _, rfl⟩ := dv_row hx
    obtain ⟨rfl, hir⟩ := dv_int hi
    clear hir
    split at h
    · rename_i s hs
      split at h
      · rename_i j
        split at h
        · rename_i hj
          cases h
          have h1 := hr _ (List.mem_singleton.2 rfl)
          rw [evB_mkCmp] at h1
          replace h1 : j < den ρ len := of_decide_eq_true h1
          refine ⟨_, by simp only [dv, hb, Option.map_some]; rfl, fun w => ?_⟩
          have h2 : j < ((den ρ len).toNat : Int) := by omega
          generalize (den ρ len).toNat = m at h2
          simp [Instr.indexAt, run_underlying hu, asIntOf, den, hj, h2, run_sizeA hs, Addr.add_lit, Nat.add_assoc]
        · cases h
      · cases h
    · cases h
  · cases h

theorem indexA_sound {t : TypeId} {x i r : AV} {u v : Value} (hx : dv bs ρ x = some u) (hi : dv bs ρ i = some v)
    (h : indexA P t x i = some r) : ∃ z, dv bs ρ r = some z ∧ (Instr.index t u v).run P w = .ok z w := by
  unfold indexA at h
  split at h
  · rename_i n e l k j hu
    split at h
    · rename_i s hs
      split at h
      · rename_i hj
        obtain ⟨rfl, hir⟩ := dv_int hi
        clear hir
        simp only [dv, Option.map_eq_some_iff] at hx
        obtain ⟨vs, hvs, rfl⟩ := hx
        obtain ⟨z, hz, hrun⟩ := partA_sound (w := w) (dvl_members _ hvs) h
        exact ⟨z, hz, by simp [Instr.index, run_underlying hu, asIntOf, den, hj, run_sizeA hs, hrun]⟩
      · cases h
    · cases h
  · cases h

end Go.SX

/- Symbolic execution of the model's code, part 5: loads, literals, builtins; all operations that only compute or read, together. -/
namespace Go.SX
set_option linter.unusedSimpArgs false
set_option linter.unusedVariables false
variable {bs : List Ent} {ρ : Env} {P : Program} {w : World}

theorem run_isAgg {t : TypeId} {d : TypeDesc} (h : P.underlying t = some d) (w : World) : (isAgg t).run P w = .ok (aggD d) w := by
  unfold isAgg
  rw [Sem.run_bind, run_underlying h w]
  cases d <;> rfl

theorem add_at (b o j : Nat) : (⟨b, o, none⟩ : Addr).add j = ⟨b, o + j, none⟩ := by
  unfold Addr.add; split <;> simp_all

theorem run_loadVar_agg {t : TypeId} {d : TypeDesc} {g off : Nat} {vs : List Value} (hu : P.underlying t = some d) (ha : aggD d = true) (hs : sizeA P t = some vs.length)
    (hc : ∀ (j : Nat) v, vs[j]? = some v → w.cell? ⟨g, off + j, none⟩ = some v) : (loadVar t ⟨g, off, none⟩).run P w = .ok (.agg vs.toArray) w := by
  have hl := run_loadCells_list (P := P) w ⟨g, off, none⟩ vs (fun j v hv => by rw [add_at]; exact hc j v hv)
  simp [loadVar, run_isAgg hu, ha, run_sizeA hs, hl]
theorem run_loadVar_one {t : TypeId} {d : TypeDesc} {g off : Nat} {v : Value} (hu : P.underlying t = some d) (ha : aggD d = false)
    (hc : w.cell? ⟨g, off, none⟩ = some v) : (loadVar t ⟨g, off, none⟩).run P w = .ok v w := by
  simp [loadVar, run_isAgg hu, ha, hc]

theorem dvl_rowAt (row : List Col) (i : SE) (h : ∀ (j : Nat) p, row[j]? = some p → colOk ρ (den ρ i) p = true) :
    dvl bs ρ (rowAt row i) = some (row.map fun p => colV ρ (den ρ i) p) := by
  induction row with
  | nil => rfl
  | cons p r ih =>
    have : rowAt (p :: r) i = colA i p :: rowAt r i := rfl
    rw [this]
    have h0 := h 0 p rfl
    have ih' := ih (fun j q hq => h (j + 1) q (by simpa using hq))
    simp [dvl, dv_colA (bs := bs) h0, ih']

theorem loadA_sound {mem : List AObj} {t : TypeId} {x r : AV} {reqs : List SE} {u : Value} (hm : MRel bs ρ mem w) (hx : dv bs ρ x = some u) (h : loadA P mem t x = some (reqs, r))
    (hr : ∀ c ∈ reqs, evB ρ c = true) : ∃ z, dv bs ρ r = some z ∧ (Instr.loadAt t u).run P w = .ok z w := by
  unfold loadA at h
  split at h
  · rename_i d n hu hs
    split at h
    · rename_i id off
      split at h
      · rename_i c ty own gr ho
        obtain ⟨b, hb, vs, tail, hvs, ⟨pre, hheap, hpre⟩, _⟩ := hm _ _ ho
        simp only [dv, hb, Option.map_some, Option.some.injEq] at hx
        subst hx
        have hcell : ∀ (j : Nat) v, vs[j]? = some v → w.cell? ⟨b.blk, b.base + j, none⟩ = some v := fun j v hv => by
          refine cells_at hheap hpre ?_
          rw [List.getElem?_append_left (List.getElem?_eq_some_iff.1 hv).1]
          exact hv
        simp only [Option.map_eq_some_iff, Prod.mk.injEq] at h
        obtain ⟨a, ha, rfl, rfl⟩ := h
        split at ha
        · rename_i hd
          simp only [takeC] at ha
          split at ha
          · rename_i hle
            simp only [Option.map_some, Option.some.injEq] at ha
            subst ha
            have hlen := dvl_length hvs
            refine ⟨_, by simp only [dv, dvs_ofList, dvl_take (dvl_drop hvs off) n, Option.map_some]; rfl, ?_⟩
            show (loadVar t _).run P w = _
            refine run_loadVar_agg hu hd (by rw [hs]; congr 1; simp; omega) (fun j v hv => ?_)
            have := List.getElem?_take (l := vs.drop off) (i := n) (j := j)
            rw [this] at hv
            split at hv
            · rw [Nat.add_assoc]; exact hcell _ v (by simpa using hv)
            · cases hv
          · cases ha
        · rename_i hd
          obtain ⟨v, hv, hdv⟩ := dvl_get hvs ha
          exact ⟨v, hdv, run_loadVar_one hu (by simpa using hd) (hcell _ v hv)⟩
      · rename_i m cap row ty ho
        obtain ⟨b, hb, _, _, e3, e4, e5, e6⟩ := hm _ _ ho
        simp only [dv, hb, Option.map_some, Option.some.injEq] at hx
        subst hx
        simp only [Option.map_eq_some_iff, Prod.mk.injEq] at h
        obtain ⟨a, ha, rfl, rfl⟩ := h
        have h2 := hr _ (List.mem_singleton.2 rfl)
        rw [evB_mkCmp] at h2
        replace h2 : ((off / row.length : Nat) : Int) < den ρ m := of_decide_eq_true h2
        obtain ⟨_, _, hcs⟩ := e6 (Int.lt_of_lt_of_le (Int.lt_of_le_of_lt (Int.natCast_nonneg _) h2) e4)
        have hlt : off / row.length < (den ρ cap).toNat := by omega
        have hvs := dvl_rowAt (bs := bs) (ρ := ρ) row (.lit (off / row.length : Nat)) (fun j p hp => (hcs _ j p hlt hp).2)
        have hden : den ρ (.lit (off / row.length : Nat)) = ((off / row.length : Nat) : Int) := rfl
        rw [hden] at hvs
        generalize hvl : (row.map fun p => colV ρ ((off / row.length : Nat) : Int) p) = vs at hvs
        have hcell : ∀ (j : Nat) v, vs[j]? = some v → w.cell? ⟨b.blk, b.base + (off / row.length * row.length + j), none⟩ = some v := fun j v hv => by
          rw [← hvl, List.getElem?_map, Option.map_eq_some_iff] at hv
          obtain ⟨p, hp, rfl⟩ := hv
          exact (hcs _ j p hlt hp).1
        have hoff : off / row.length * row.length + off % row.length = off := by rw [Nat.mul_comm]; exact Nat.div_add_mod off row.length
        split at ha
        · rename_i hd
          simp only [takeC] at ha
          split at ha
          · rename_i hle
            simp only [Option.map_some, Option.some.injEq] at ha
            subst ha
            have hlen := dvl_length hvs
            refine ⟨_, by simp only [dv, dvs_ofList, dvl_take (dvl_drop hvs (off % row.length)) n, Option.map_some]; rfl, ?_⟩
            show (loadVar t _).run P w = _
            refine run_loadVar_agg hu hd (by rw [hs]; congr 1; simp; omega) (fun j v hv => ?_)
            have := List.getElem?_take (l := vs.drop (off % row.length)) (i := n) (j := j)
            rw [this] at hv
            split at hv
            · have := hcell (off % row.length + j) v (by simpa using hv)
              rw [← Nat.add_assoc (off / row.length * row.length), hoff] at this
              rw [Nat.add_assoc]
              exact this
            · cases hv
          · cases ha
        · rename_i hd
          obtain ⟨v, hv, hdv⟩ := dvl_get hvs ha
          have := hcell _ v hv
          rw [hoff] at this
          exact ⟨v, hdv, run_loadVar_one hu (by simpa using hd) this⟩
      · cases h
    · rename_i id i s off
      split at h
      · rename_i m cap row ty ho
        split at h
        · rename_i hsr
          obtain ⟨b, hb, _, _, e3, e4, e5, e6⟩ := hm _ _ ho
          simp only [dv, hb, Option.map_some, Option.some.injEq] at hx
          subst hx
          simp only [Option.map_eq_some_iff, Prod.mk.injEq] at h
          obtain ⟨a, ha, rfl, rfl⟩ := h
          have h1 := hr _ (List.mem_cons_self ..)
          have h2 := hr _ (List.mem_cons_of_mem _ (List.mem_singleton.2 rfl))
          rw [evB_mkCmp] at h1 h2
          replace h1 : 0 ≤ den ρ i := of_decide_eq_true h1
          replace h2 : den ρ i < den ρ m := of_decide_eq_true h2
          obtain ⟨_, _, hcs⟩ := e6 (by omega)
          have hlt : (den ρ i).toNat < (den ρ cap).toNat := by omega
          have hii : ((den ρ i).toNat : Int) = den ρ i := by omega
          have hvs := dvl_rowAt (bs := bs) (ρ := ρ) row i (fun j p hp => by have := (hcs _ j p hlt hp).2; rw [hii] at this; exact this)
          generalize hvl : (row.map fun p => colV ρ (den ρ i) p) = vs at hvs
          have hcell : ∀ (j : Nat) v, vs[j]? = some v → w.cell? ⟨b.blk, b.base + ((den ρ i).toNat * s + j), none⟩ = some v := fun j v hv => by
            rw [← hvl, List.getElem?_map, Option.map_eq_some_iff] at hv
            obtain ⟨p, hp, rfl⟩ := hv
            rw [hsr, (hcs _ j p hlt hp).1, hii]
          split at ha
          · rename_i hd
            simp only [takeC] at ha
            split at ha
            · rename_i hle
              simp only [Option.map_some, Option.some.injEq] at ha
              subst ha
              have hlen := dvl_length hvs
              refine ⟨_, by simp only [dv, dvs_ofList, dvl_take (dvl_drop hvs off) n, Option.map_some]; rfl, ?_⟩
              show (loadVar t _).run P w = _
              refine run_loadVar_agg hu hd (by rw [hs]; congr 1; simp; omega) (fun j v hv => ?_)
              have := List.getElem?_take (l := vs.drop off) (i := n) (j := j)
              rw [this] at hv
              split at hv
              · rw [Nat.add_assoc, Nat.add_assoc]; exact hcell (off + j) v (by simpa using hv)
              · cases hv
            · cases ha
          · rename_i hd
            obtain ⟨v, hv, hdv⟩ := dvl_get hvs ha
            exact ⟨v, hdv, run_loadVar_one hu (by simpa using hd) (hcell off v hv)⟩
        · cases h
      · cases h
    · cases h
  · cases h

/-! ### literals -/
theorem foldl_set (off : Nat) : ∀ (vs : List Value) (i : Nat) (cells : Array Value), off + i + vs.length ≤ cells.size →
    ((vs.zipIdx i).foldl (fun cs (p : Value × Nat) => cs.setIfInBounds (off + p.2) p.1) cells).toList = cells.toList.take (off + i) ++ vs ++ cells.toList.drop (off + i + vs.length)
  | [], i, cells, h => by simp
  | v :: vs, i, cells, h => by
    simp only [List.length_cons] at h
    simp only [List.zipIdx_cons, List.foldl_cons]
    rw [foldl_set off vs (i + 1) _ (by simp; omega)]
    simp only [Array.toList_setIfInBounds, List.length_cons]
    have hlt : off + i < cells.toList.length := by simp; omega
    apply List.ext_getElem?
    intro j
    simp only [List.append_assoc, List.getElem?_append, List.length_take, List.length_set, List.getElem?_take, List.getElem?_drop, List.getElem?_set, List.length_cons]
    have e1 : min (off + (i + 1)) cells.toList.length = off + i + 1 := by simp at hlt ⊢; omega
    have e2 : min (off + i) cells.toList.length = off + i := by simp at hlt ⊢; omega
    rw [e1, e2]
    by_cases h1 : j < off + i
    · simp [h1, show j < off + i + 1 by omega, show j < off + (i + 1) by omega, show ¬ off + i = j by omega]
    · by_cases h2 : j = off + i
      · subst h2
        simp [show off + i < off + (i + 1) by omega]
        simpa using hlt
      · simp only [h1, show ¬ j < off + i + 1 by omega, if_false]
        rw [show j - (off + i) = (j - (off + i + 1)) + 1 by omega]
        simp only [List.getElem?_cons_succ, Nat.add_lt_add_iff_right]
        by_cases h3 : j - (off + i + 1) < vs.length
        · simp [h3]
        · simp only [h3, if_false]
          rw [if_neg (by omega)]
          congr 1
          omega

theorem fillA_sound (place : Nat → Option (Nat × Nat)) : ∀ (ps : List (Nat × AV)) (qs : List (Nat × Value)) (cells out : List AV) (vs : List Value),
    dvl bs ρ cells = some vs → ps.length = qs.length → (∀ (i : Nat) p q, ps[i]? = some p → qs[i]? = some q → p.1 = q.1 ∧ dv bs ρ p.2 = some q.2) → fillA place cells ps = some out →
    ∃ us, dvl bs ρ out = some us ∧ Instr.fill place vs.toArray qs = some us.toArray
  | [], qs, cells, out, vs, hc, hl, _, h => by
    cases qs with
    | nil => cases h; exact ⟨vs, hc, rfl⟩
    | cons _ _ => simp at hl
  | (i, a) :: ps, qs, cells, out, vs, hc, hl, hp, h => by
    cases qs with
    | nil => simp at hl
    | cons q qs =>
      obtain ⟨j, v⟩ := q
      obtain ⟨rfl, hdv⟩ := hp 0 (i, a) (j, v) rfl rfl
      simp only [fillA] at h
      split at h
      · cases h
      · rename_i off size hpl
        split at h
        · cases h
        · rename_i hle
          simp only [Bool.or_eq_true, decide_eq_true_eq, not_or, ne_eq, Decidable.not_not] at hle
          have hcl := dv_cells hdv
          have hlen := dvl_length hcl
          have hlen2 := dvl_length hc
          simp only [Array.length_toList] at hlen
          obtain ⟨us, hus, hfill⟩ := fillA_sound place ps qs _ out (vs.take off ++ v.cells.toList ++ vs.drop (off + a.cells.length))
            (dvl_append (dvl_append (dvl_take hc off) hcl) (dvl_drop hc _)) (by simpa using hl) (fun k p q h1 h2 => hp (k + 1) p q (by simpa using h1) (by simpa using h2)) h
          refine ⟨us, hus, ?_⟩
          simp only [Instr.fill, hpl]
          have hz1 : v.cells.size = a.cells.length := hlen
          rw [if_neg (by simp only [List.size_toArray, Bool.or_eq_true, decide_eq_true_eq, not_or, ne_eq, Decidable.not_not]; omega)]
          rw [← hfill]
          congr 1
          apply Array.ext'
          have := foldl_set off v.cells.toList 0 vs.toArray (by simp; omega)
          simp only [Nat.add_zero, Array.length_toList, hlen] at this
          rw [← Array.foldl_toList]
          simpa using this

theorem partsA_sound {ev : Operand → Option AV} {e : Operand → Value} (hev : ∀ x a, ev x = some a → dv bs ρ a = some (e x)) :
    ∀ {ps : List (Nat × Operand)} {out : List (Nat × AV)}, partsA ev ps = some out → out.length = ps.length ∧
      ∀ (i : Nat) p q, out[i]? = some p → (ps.map fun (i, x) => (i, e x))[i]? = some q → p.1 = q.1 ∧ dv bs ρ p.2 = some q.2
  | [], out, h => by cases h; simp
  | (j, x) :: ps, out, h => by
    simp only [partsA, Option.bind_eq_some_iff, Option.map_eq_some_iff] at h
    obtain ⟨a, ha, l, hl, rfl⟩ := h
    obtain ⟨h1, h2⟩ := partsA_sound hev hl
    refine ⟨by simp [h1], fun i p q hp hq => ?_⟩
    cases i with
    | zero => simp at hp hq; subst hp; subst hq; exact ⟨rfl, hev _ _ ha⟩
    | succ i => exact h2 i p q (by simpa using hp) (by simpa using hq)

theorem zeroA_sound {t : TypeId} {a : AV} (h : zeroA P t = some a) (w : World) : ∃ z, dv bs ρ a = some z ∧ (zeroValue t).run P w = .ok z w := by
  simp only [zeroA, Option.bind_eq_some_iff] at h
  obtain ⟨v, ⟨i, hi, hz⟩, hv⟩ := h
  exact ⟨v, ofV_sound hv, by simp [zeroValue, typeInfo, hi, hz]⟩

theorem places_sound : ∀ {fs : List Field} {pl : List (Nat × Nat)}, places P fs = some pl → ∀ w : World,
    (fs.mapM fun f => (do pure (f.offset, ← sizeOf f.type) : Sem (Nat × Nat))).run P w = .ok pl w
  | [], pl, h, w => by cases h; rfl
  | f :: fs, pl, h, w => by
    simp only [places, Option.bind_eq_some_iff, Option.map_eq_some_iff] at h
    obtain ⟨s, hs, l, hl, rfl⟩ := h
    have ih := places_sound hl w
    simp only [List.mapM_cons, Sem.run_bind, run_sizeA hs, Result.andThen_ok, Sem.run_pure] at ih ⊢
    rw [ih]
    rfl

theorem buildA_sound {t : TypeId} {ps : List (Nat × AV)} {qs : List (Nat × Value)} {r : AV} (hl : ps.length = qs.length)
    (hp : ∀ (i : Nat) p q, ps[i]? = some p → qs[i]? = some q → p.1 = q.1 ∧ dv bs ρ p.2 = some q.2) (h : buildA P t ps = some r) :
    ∃ z, dv bs ρ r = some z ∧ (Instr.build t qs.toArray).run P w = .ok z w := by
  simp only [buildA, Option.bind_eq_some_iff] at h
  obtain ⟨za, hza, h⟩ := h
  obtain ⟨z, hz, hrz⟩ := zeroA_sound (bs := bs) (ρ := ρ) hza w
  have hzc := dv_cells hz
  split at h
  · rename_i fs hu
    simp only [Option.bind_eq_some_iff, Option.map_eq_some_iff] at h
    obtain ⟨pl, hpl, c, hc, rfl⟩ := h
    obtain ⟨us, hus, hfill⟩ := fillA_sound (fun i => pl[i]?) ps qs za.cells c z.cells.toList hzc hl hp hc
    refine ⟨_, by simp only [dv, dvs_ofList, hus, Option.map_some]; rfl, ?_⟩
    have hm := places_sound hpl w
    have hm' : (fs.mapM fun f => (do pure (f.offset, ← sizeOf f.type) : Sem (Nat × Nat))).run P w = .ok pl.toArray w := by
      rw [Array.mapM_eq_mapM_toList, Sem.run_map]
      rw [hm]
      rfl
    have hfill' : Instr.fill (fun x => pl.toArray[x]?) z.cells qs = some us.toArray := by simpa using hfill
    simp only [Instr.build, Sem.run_bind, hrz, Result.andThen_ok, run_underlying hu, hm', List.toList_toArray, hfill', Sem.run_pure]
  · rename_i n e hu
    simp only [Option.bind_eq_some_iff, Option.map_eq_some_iff] at h
    obtain ⟨s, hs, c, hc, rfl⟩ := h
    obtain ⟨us, hus, hfill⟩ := fillA_sound _ ps qs za.cells c z.cells.toList hzc hl hp hc
    refine ⟨_, by simp only [dv, dvs_ofList, hus, Option.map_some]; rfl, ?_⟩
    simp only [Array.toArray_toList] at hfill
    simp only [Instr.build, Sem.run_bind, hrz, Result.andThen_ok, run_underlying hu, run_sizeA hs, List.toList_toArray, hfill, Sem.run_pure]
  · cases h

theorem evs_sound {ev : Operand → Option AV} {e : Operand → Value} (hev : ∀ x a, ev x = some a → dv bs ρ a = some (e x)) :
    ∀ {xs : List Operand} {l : List AV}, evs ev xs = some l → dvl bs ρ l = some (xs.map e)
  | [], l, h => by cases h; rfl
  | x :: xs, l, h => by
    simp only [evs, Option.bind_eq_some_iff, Option.map_eq_some_iff] at h
    obtain ⟨a, ha, r, hr, rfl⟩ := h
    simp [dvl, hev _ _ ha, evs_sound hev hr]

theorem lenA_sound {mem : List AObj} {t ty : TypeId} {x r : AV} {reqs : List SE} {u : Value} (hm : MRel bs ρ mem w) (hx : dv bs ρ x = some u) (h : lenA P mem t x = some (reqs, r)) (hr : ∀ c ∈ reqs, evB ρ c = true) :
    ∃ z, dv bs ρ r = some z ∧ (Builtin.len_ #[t] ty #[u]).run P w = .ok z w := by
  unfold lenA at h
  split at h
  · rename_i e id off n c hu
    cases h
    simp only [dv, Option.map_eq_some_iff] at hx
    obtain ⟨b, _, rfl⟩ := hx
    have h0 := hr _ (List.mem_cons_self ..)
    have h9 := hr _ (List.mem_cons_of_mem _ (List.mem_singleton.2 rfl))
    rw [evB_mkCmp] at h0 h9
    replace h0 : 0 ≤ den ρ n := of_decide_eq_true h0
    replace h9 : den ρ n ≤ 9223372036854775807 := of_decide_eq_true h9
    have hin : inR .i64 (den ρ n) = true := by
      unfold inR
      rw [decide_eq_true_eq]
      exact ⟨by have : IntKind.i64.min ≤ 0 := by decide
                omega, h9⟩
    refine ⟨_, dv_int_mk hin, ?_⟩
    have : ((den ρ n).toNat : Int) = den ρ n := by omega
    generalize (den ρ n).toNat = m at this
    simp [Builtin.len_, run_underlying hu, goInt, this]
  · rename_i e id hu
    split at h
    · rename_i n cap row ty2 ho
      cases h
      obtain ⟨b, hb, e1, e2, e3, e4, e5, e6⟩ := hm _ _ ho
      simp only [dv, hb, Option.map_some, Option.some.injEq] at hx
      subst hx
      have hin : inR .i64 (den ρ n) = true := by
        unfold inR
        rw [decide_eq_true_eq]
        exact ⟨by have : IntKind.i64.min ≤ 0 := by decide
                  omega, by have : IntKind.i64.max = 9223372036854775807 := by decide
                            omega⟩
      refine ⟨_, dv_int_mk hin, ?_⟩
      have : (b.len : Int) = den ρ n := by omega
      simp [Builtin.len_, run_underlying hu, goInt, this]
    · cases h
  · rename_i e id off n c hu
    cases h
    obtain ⟨b, _, _, rfl⟩ := dv_row hx
    have h0 := hr _ (List.mem_cons_self ..)
    have h9 := hr _ (List.mem_cons_of_mem _ (List.mem_singleton.2 rfl))
    rw [evB_mkCmp] at h0 h9
    replace h0 : 0 ≤ den ρ n := of_decide_eq_true h0
    replace h9 : den ρ n ≤ 9223372036854775807 := of_decide_eq_true h9
    have hin : inR .i64 (den ρ n) = true := by
      unfold inR
      rw [decide_eq_true_eq]
      exact ⟨by have : IntKind.i64.min ≤ 0 := by decide
                omega, h9⟩
    refine ⟨_, dv_int_mk hin, ?_⟩
    have : ((den ρ n).toNat : Int) = den ρ n := by omega
    generalize (den ρ n).toNat = m at this
    simp [Builtin.len_, run_underlying hu, goInt, this]
  · rename_i e xb xo n c hu
    cases h
    cases hx
    obtain ⟨xa, xm, hxv⟩ := xsV_slice (den ρ xb) (den ρ xo) (den ρ n) (den ρ c)
    rw [hxv]
    have h0 := hr _ (List.mem_cons_self ..)
    have h9 := hr _ (List.mem_cons_of_mem _ (List.mem_singleton.2 rfl))
    rw [evB_mkCmp] at h0 h9
    replace h0 : 0 ≤ den ρ n := of_decide_eq_true h0
    replace h9 : den ρ n ≤ 9223372036854775807 := of_decide_eq_true h9
    have hin : inR .i64 (den ρ n) = true := by
      unfold inR
      rw [decide_eq_true_eq]
      exact ⟨by have : IntKind.i64.min ≤ 0 := by decide
                omega, h9⟩
    refine ⟨_, dv_int_mk hin, ?_⟩
    have : ((den ρ n).toNat : Int) = den ρ n := by omega
    generalize (den ρ n).toNat = m at this
    simp [Builtin.len_, run_underlying hu, goInt, this]
  · rename_i e hu
    split at h
    · rename_i hir
      cases h; cases hx
      exact ⟨_, dv_int_mk (e := .lit _) hir, by simp [Builtin.len_, run_underlying hu, goInt, den]⟩
    · cases h
  · rename_i n e hu
    split at h
    · rename_i hir
      cases h
      exact ⟨_, dv_int_mk (e := .lit _) hir, by simp [Builtin.len_, run_underlying hu, goInt, den]⟩
    · cases h
  · rename_i s hu
    split at h
    · rename_i hir
      cases h; cases hx
      exact ⟨_, dv_int_mk (e := .lit _) hir, by simp [Builtin.len_, run_underlying hu, goInt, den]⟩
    · cases h
  · cases h

theorem maxA_sound (f : SE → SE → SE) (g : Value → Value → Sem Value) (G : Int → Int → Int) (hf : ∀ a b, den ρ (f a b) = G (den ρ a) (den ρ b)) (hg : ∀ k k' a b, g (.int k a) (.int k' b) = pure (.int k (G a b))) (hG : ∀ a b, G a b = a ∨ G a b = b) (k : IntKind) :
    ∀ {l : List AV} {a : SE} {r : AV} {vs : List Value}, inR k (den ρ a) = true → dvl bs ρ l = some vs → maxA f k a l = some r → ∃ z, dv bs ρ r = some z ∧ ∀ w : World, (vs.foldlM g (.int k (den ρ a))).run P w = .ok z w
  | [], a, r, vs, ha, hl, h => by cases hl; cases h; exact ⟨_, dv_int_mk ha, fun w => rfl⟩
  | x :: l, a, r, vs, ha, hl, h => by
    simp only [dvl, Option.bind_eq_some_iff, Option.map_eq_some_iff] at hl
    obtain ⟨u, hu, us, hus, rfl⟩ := hl
    cases x <;> simp only [maxA] at h <;> first | (cases h; done) | skip
    rename_i k' b
    split at h
    · rename_i hk
      obtain ⟨rfl, hb⟩ := dv_int hu
      rw [hk] at hb
      obtain ⟨z, hz, hrun⟩ := maxA_sound f g G hf hg hG k (by rw [hf]; rcases hG (den ρ a) (den ρ b) with e | e <;> rw [e] <;> assumption) hus h
      refine ⟨z, hz, fun w => ?_⟩
      rw [hf] at hrun
      simp only [List.foldlM_cons, hg, pure_bind]
      exact hrun w
    · cases h

theorem max2_sound (f : SE → SE → SE) (g : Value → Value → Sem Value) (G : Int → Int → Int) (hf : ∀ a b, den ρ (f a b) = G (den ρ a) (den ρ b)) (hg : ∀ k k' a b, g (.int k a) (.int k' b) = pure (.int k (G a b))) (hG : ∀ a b, G a b = a ∨ G a b = b)
    {l : List AV} {r : AV} {vs : List Value} (hl : dvl bs ρ l = some vs) (h : max2 f l = some r) : ∃ x rest z, vs = x :: rest ∧ dv bs ρ r = some z ∧ ∀ w : World, (rest.foldlM g x).run P w = .ok z w := by
  unfold max2 at h
  split at h
  · simp only [dvl, Option.bind_eq_some_iff, Option.map_eq_some_iff] at hl
    obtain ⟨u, hu, us, hus, rfl⟩ := hl
    obtain ⟨rfl, ha⟩ := dv_int hu
    obtain ⟨z, hz, hrun⟩ := maxA_sound (P := P) f g G hf hg hG _ ha hus h
    exact ⟨_, _, z, rfl, hz, hrun⟩
  · cases h

theorem builtinA_sound {mem : List AObj} {b : Builtin} {ts : Array TypeId} {ty : TypeId} {cs : Array Bool} {xs : List AV} {reqs : List SE} {r : AV} {vs : List Value} (hm : MRel bs ρ mem w) (hx : dvl bs ρ xs = some vs) (h : builtinA P mem b ts xs = some (reqs, r)) (hr : ∀ c ∈ reqs, evB ρ c = true) :
    ∃ z, dv bs ρ r = some z ∧ (builtin b ts ty cs vs.toArray).run P w = .ok (.value z) w := by
  unfold builtinA at h
  split at h
  · rename_i t x hts
    simp only [dvl, Option.bind_eq_some_iff, Option.map_eq_some_iff, Option.some.injEq] at hx
    obtain ⟨u, hu, us, rfl, rfl⟩ := hx
    obtain ⟨z, hz, hrun⟩ := lenA_sound (ty := ty) (w := w) hm hu h hr
    have hts' : ts = #[t] := by cases ts; simp_all
    exact ⟨z, hz, by simp [builtin, hts', hrun]⟩
  · simp only [Option.map_eq_some_iff, Prod.mk.injEq] at h
    obtain ⟨a, ha, rfl, rfl⟩ := h
    obtain ⟨x, rest, z, rfl, hz, hrun⟩ := max2_sound (P := P) mkMx Builtin.max2 _ (den_mkMx ρ) (fun _ _ _ _ => rfl) (fun a b => by show (if b > a then b else a) = a ∨ _; split <;> simp) hx ha
    exact ⟨z, hz, by simp [builtin, Builtin.max_, hrun]⟩
  · simp only [Option.map_eq_some_iff, Prod.mk.injEq] at h
    obtain ⟨a, ha, rfl, rfl⟩ := h
    obtain ⟨x, rest, z, rfl, hz, hrun⟩ := max2_sound (P := P) mkMn Builtin.min2 _ (den_mkMn ρ) (fun _ _ _ _ => rfl) (fun a b => by show (if b < a then b else a) = a ∨ _; split <;> simp) hx ha
    exact ⟨z, hz, by simp [builtin, Builtin.min_, hrun]⟩
  · cases h

theorem litOf_sound {x : Option AV} {v : Option Value} {o : Option Nat} (hx : ∀ a, x = some a → ∃ u, v = some u ∧ dv bs ρ a = some u) (hn : x = none → v = none) (h : litOf x = some o) :
    (o = none ∧ v = none) ∨ ∃ k n, o = some n ∧ v = some (.int k (n : Int)) := by
  unfold litOf at h
  split at h
  · cases h; exact .inl ⟨rfl, hn rfl⟩
  · rename_i k n
    split at h
    · rename_i h0
      cases h
      obtain ⟨u, hu, hd⟩ := hx _ rfl
      obtain ⟨rfl, _⟩ := dv_int hd
      refine .inr ⟨k, n.toNat, rfl, ?_⟩
      rw [hu]
      have : ((n.toNat : Nat) : Int) = n := by omega
      rw [this]; rfl
    · cases h
  · cases h

theorem run_sliceBound {k : IntKind} {n y : Nat} (code : BoundsCode) (h : n ≤ y) (w : World) : (Instr.sliceBound (.int k (n : Int)) y code).run P w = .ok n w := by
  have : (n : Int) ≤ (y : Int) := by omega
  simp [Instr.sliceBound, asIntOf, this, h]

theorem run_slice {t e : TypeId} {s : Nat} (hu : P.underlying t = some (.slice e)) (hs : sizeA P e = some s) {a : Addr} {len cap : Nat} {lo hi : Option Value} {l h : Nat}
    (hlo : (lo = none ∧ l = 0) ∨ ∃ k, lo = some (.int k (l : Int))) (hhi : (hi = none ∧ h = len) ∨ ∃ k, hi = some (.int k (h : Int)) ∧ h ≤ cap) (hlh : l ≤ h) (hc : l = 0 ∨ l < cap) (w : World) :
    (Instr.sliceAt t (.slice (some a) len cap) lo hi none).run P w = .ok (.slice (some (a.add (l * s))) (h - l) (cap - l)) w := by
  have hb : (Instr.sliceBounds true len cap lo hi none).run P w = .ok (l, h, cap) w := by
    rcases hlo with ⟨rfl, rfl⟩ | ⟨k, rfl⟩ <;> rcases hhi with ⟨rfl, rfl⟩ | ⟨k', rfl, hle⟩
    · simp [Instr.sliceBounds]
    · simp [Instr.sliceBounds, run_sliceBound _ hle]
    · simp [Instr.sliceBounds, run_sliceBound _ hlh]
    · simp [Instr.sliceBounds, run_sliceBound _ hle, run_sliceBound _ hlh]
  have hadd : (if cap = l then some a else (some a).map (·.add (l * s))) = some (a.add (l * s)) := by
    split
    · rename_i he
      have : l = 0 := by omega
      subst this
      simp [Addr.add]
    · rfl
  simp only [Instr.sliceAt, Sem.run_bind, run_underlying hu, Result.andThen_ok, Instr.slice, hb, run_sizeA hs, Sem.run_pure, hadd]

theorem sliceA_sound {mem : List AObj} {t : TypeId} {x r : AV} {lo hi : Option AV} {u : Value} {vl vh : Option Value} {reqs : List SE} (hm : MRel bs ρ mem w) (hx : dv bs ρ x = some u)
    (hl : ∀ a, lo = some a → ∃ u, vl = some u ∧ dv bs ρ a = some u) (hl' : lo = none → vl = none) (hh : ∀ a, hi = some a → ∃ u, vh = some u ∧ dv bs ρ a = some u) (hh' : hi = none → vh = none)
    (h : sliceA P mem t x lo hi = some (reqs, r)) (hr : ∀ c ∈ reqs, evB ρ c = true) : ∃ z, dv bs ρ r = some z ∧ (Instr.sliceAt t u vl vh none).run P w = .ok z w := by
  unfold sliceA at h
  split at h
  · rename_i n e hu
    split at h
    · rename_i g s hs
      cases h
      cases hl' rfl
      cases hh' rfl
      cases hx
      have hx : xsV (2 * (g : Int)) 0 n n = .slice (some ⟨g, 0, none⟩) n n := by
        unfold xsV
        rw [if_neg (by omega), if_pos (by omega)]
        have : (2 * (g : Int) / 2).toNat = g := by omega
        rw [this]
        simp
      refine ⟨_, rfl, ?_⟩
      show _ = Result.ok (xsV (2 * (g : Int)) 0 n n) w
      rw [hx]
      simp [Instr.sliceAt, run_underlying hu, Instr.sliceBounds, run_sizeA hs, Instr.sureAddr]
      exact fun _ => rfl
    · cases h
  · rename_i e hu
    split at h
    · rename_i s lo' hi' hs hlo hhi
      have elo := litOf_sound hl hl' hlo
      have ehi := litOf_sound hh hh' hhi
      simp only at h
      generalize hlv : lo'.getD 0 = l at h
      have clo : (vl = none ∧ l = 0) ∨ ∃ k, vl = some (.int k (l : Int)) := by
        rcases elo with ⟨rfl, e2⟩ | ⟨k, n, rfl, e2⟩
        · exact .inl ⟨e2, hlv.symm⟩
        · exact .inr ⟨k, by rw [e2, ← hlv]; rfl⟩
      split at h
      · rename_i id
        simp only [dv, Option.map_eq_some_iff] at hx
        obtain ⟨b, hb, rfl⟩ := hx
        split at h
        · rename_i n cap row ty ho
          obtain ⟨b', hb', e1, e2, e3, e4, e5, e6⟩ := hm _ _ ho
          rw [hb] at hb'; cases hb'
          have subl : ∀ x : SE, (l : Int) ≤ den ρ x → den ρ x ≤ 9223372036854775807 → (den ρ (mkBin .sub .i64 x (.lit l))).toNat = (den ρ x).toNat - l := fun x h1 h2 => by
            rw [den_mkBin]
            have : binI .sub .i64 (den ρ x) (den ρ (.lit l)) = den ρ x - l := by
              show IntKind.i64.wrap (den ρ x - l) = _
              simp only [IntKind.wrap, IntKind.bits, IntKind.signed]
              simp
              omega
            rw [this]
            omega
          split at h
          · rename_i hv
            split at h
            · rename_i hle
              cases h
              have q := hr (mkCmp .leq (.lit hv) cap) (List.mem_append_right _ (List.mem_singleton.2 rfl))
              rw [evB_mkCmp] at q
              replace q : (hv : Int) ≤ den ρ cap := of_decide_eq_true q
              have q1 : l = 0 ∨ (l : Int) < den ρ cap := by
                by_cases h0 : l = 0
                · exact .inl h0
                · right
                  have := hr (mkCmp .lss (.lit l) cap) (List.mem_append_left _ (by simp [h0]))
                  rw [evB_mkCmp] at this
                  exact of_decide_eq_true this
              obtain ⟨e7, _⟩ := e6 (by omega)
              have chi : ∃ k, vh = some (.int k (hv : Int)) := by
                rcases ehi with ⟨e1, _⟩ | ⟨k, n, e1, e2⟩
                · cases e1
                · cases e1; exact ⟨k, e2⟩
              obtain ⟨k, hk⟩ := chi
              refine ⟨_, by simp only [dv, hb, Option.map_some]; rfl, ?_⟩
              rw [e7, run_slice hu hs clo (.inr ⟨k, hk, by omega⟩) hle.1 (by omega) w, Addr.add_lit]
              have e8 : (den ρ (if l = 0 then cap else mkBin .sub .i64 cap (.lit l))).toNat = b.cap - l := by
                split
                · rename_i h0; rw [h0, e2]; rfl
                · rw [subl cap (by omega) e5, e2]
              rw [e8]
              rfl
            · cases h
          · split at h
            · cases h
            · rename_i h0
              cases h
              have q1 := hr (mkCmp .lss (.lit l) cap) (List.mem_cons_self ..)
              have q2 := hr (mkCmp .leq (.lit l) n) (List.mem_cons_of_mem _ (List.mem_singleton.2 rfl))
              rw [evB_mkCmp] at q1 q2
              replace q1 : (l : Int) < den ρ cap := of_decide_eq_true q1
              replace q2 : (l : Int) ≤ den ρ n := of_decide_eq_true q2
              obtain ⟨e7, _⟩ := e6 (by omega)
              have chi : vh = none := by
                rcases ehi with ⟨_, e2⟩ | ⟨k, n, e1, _⟩
                · exact e2
                · cases e1
              refine ⟨_, by simp only [dv, hb, Option.map_some]; rfl, ?_⟩
              rw [e7, run_slice hu hs clo (.inl ⟨chi, rfl⟩) (by omega) (by omega) w, Addr.add_lit, subl n q2 (by omega), subl cap (by omega) e5, e1, e2]
        · cases h
      · rename_i id off len cap
        simp only [dv, Option.map_eq_some_iff] at hx
        obtain ⟨b, hb, rfl⟩ := hx
        have capfacts : (∀ c ∈ (if l = 0 then [] else [mkCmp .lss (.lit l) cap, mkCmp .leq cap (.lit 9223372036854775807)]), evB ρ c = true) →
            (l = 0 ∨ l < (den ρ cap).toNat) ∧ (den ρ (if l = 0 then cap else mkBin .sub .i64 cap (.lit l))).toNat = (den ρ cap).toNat - l := by
          intro hq
          by_cases h0 : l = 0
          · simp [h0]
          · simp only [h0, if_false] at hq ⊢
            have q1 := hq _ (List.mem_cons_self ..)
            have q2 := hq _ (List.mem_cons_of_mem _ (List.mem_singleton.2 rfl))
            rw [evB_mkCmp] at q1 q2
            replace q1 : (l : Int) < den ρ cap := of_decide_eq_true q1
            replace q2 : den ρ cap ≤ 9223372036854775807 := of_decide_eq_true q2
            refine ⟨.inr (by omega), ?_⟩
            rw [den_mkBin]
            have : binI .sub .i64 (den ρ cap) (den ρ (.lit l)) = den ρ cap - l := by
              show IntKind.i64.wrap (den ρ cap - l) = _
              simp only [IntKind.wrap, IntKind.bits, IntKind.signed]
              simp
              omega
            rw [this]
            omega
        split at h
        · rename_i hv
          split at h
          · rename_i hle
            cases h
            obtain ⟨c1, c2⟩ := capfacts (fun c hc => hr c (List.mem_append_left _ hc))
            have q := hr (mkCmp .leq (.lit hv) cap) (List.mem_append_right _ (List.mem_singleton.2 rfl))
            rw [evB_mkCmp] at q
            replace q : (hv : Int) ≤ den ρ cap := of_decide_eq_true q
            have chi : ∃ k, vh = some (.int k (hv : Int)) := by
              rcases ehi with ⟨e1, _⟩ | ⟨k, n, e1, e2⟩
              · cases e1
              · cases e1; exact ⟨k, e2⟩
            obtain ⟨k, hk⟩ := chi
            refine ⟨_, by simp only [dv, hb, Option.map_some]; rfl, ?_⟩
            rw [run_slice hu hs clo (.inr ⟨k, hk, by omega⟩) hle c1 w, Addr.add_lit, c2, Nat.add_assoc]
            rfl
          · cases h
        · cases h
          obtain ⟨c1, c2⟩ := capfacts (fun c hc => hr c (List.mem_append_left _ hc))
          have q := hr (mkCmp .leq (.lit l) len) (List.mem_append_right _ (List.mem_cons_self ..))
          have q' := hr (mkCmp .leq len (.lit 9223372036854775807)) (List.mem_append_right _ (List.mem_cons_of_mem _ (List.mem_singleton.2 rfl)))
          rw [evB_mkCmp] at q q'
          replace q : (l : Int) ≤ den ρ len := of_decide_eq_true q
          replace q' : den ρ len ≤ 9223372036854775807 := of_decide_eq_true q'
          have chi : vh = none := by
            rcases ehi with ⟨_, e2⟩ | ⟨k, n, e1, _⟩
            · exact e2
            · cases e1
          have c3 : (den ρ (if l = 0 then len else mkBin .sub .i64 len (.lit l))).toNat = (den ρ len).toNat - l := by
            by_cases h0 : l = 0
            · simp [h0]
            · simp only [h0, if_false]
              rw [den_mkBin]
              have : binI .sub .i64 (den ρ len) (den ρ (.lit l)) = den ρ len - l := by
                show IntKind.i64.wrap (den ρ len - l) = _
                simp only [IntKind.wrap, IntKind.bits, IntKind.signed]
                simp
                omega
              rw [this]
              omega
          refine ⟨_, by simp only [dv, hb, Option.map_some]; rfl, ?_⟩
          rw [run_slice hu hs clo (.inl ⟨chi, rfl⟩) (by omega) c1 w, Addr.add_lit, c2, c3, Nat.add_assoc]
      · rename_i id off n skip
        obtain ⟨b, hb, hncap, rfl⟩ := dv_row hx
        split at h
        · rename_i c ty own s' ho
          split at h
          · rename_i hcond
            obtain ⟨rfl, hs0, hn0, hoff, hlen, hlh, hhn, hl0⟩ := hcond
            cases h
            have hden : (den ρ (.lit n)).toNat = n.toNat := rfl
            rw [hden] at hncap
            have hcap : skip + n.toNat ≤ b.cap := by omega
            refine ⟨_, dv_row_mk hb (by show ((hi'.getD n.toNat - l : Nat) : Int).toNat + (skip + l) ≤ b.cap; rw [Int.toNat_natCast]; omega), ?_⟩
            have chi : (vh = none ∧ hi'.getD n.toNat = (den ρ (.lit n)).toNat) ∨ ∃ k, vh = some (.int k ((hi'.getD n.toNat : Nat) : Int)) ∧ hi'.getD n.toNat ≤ b.cap - skip := by
              rcases ehi with ⟨rfl, e2⟩ | ⟨k, m, rfl, e2⟩
              · exact .inl ⟨e2, rfl⟩
              · exact .inr ⟨k, e2, by omega⟩
            rw [run_slice hu hs clo chi hlh (by omega) w, Addr.add_lit, Nat.add_assoc]
            have e3 : b.cap - skip - l = b.cap - (skip + l) := by omega
            rw [e3]
            rfl
          · cases h
        · cases h
      · rename_i id off n skip _
        obtain ⟨b, hb, hncap, rfl⟩ := dv_row hx
        split at h
        · rename_i hv
          split at h
          · rename_i hcond
            obtain ⟨hlh, hl0⟩ := hcond
            cases h
            have q := hr (mkCmp .leq (.lit hv) n) (List.mem_singleton.2 rfl)
            rw [evB_mkCmp] at q
            replace q : (hv : Int) ≤ den ρ n := of_decide_eq_true q
            refine ⟨_, dv_row_mk hb (by show ((hv - l : Nat) : Int).toNat + (skip + l) ≤ b.cap; rw [Int.toNat_natCast]; omega), ?_⟩
            have chi : ∃ k, vh = some (.int k (hv : Int)) := by
              rcases ehi with ⟨e1, _⟩ | ⟨k, m, e1, e2⟩
              · cases e1
              · cases e1; exact ⟨k, e2⟩
            obtain ⟨k, hk⟩ := chi
            rw [run_slice hu hs clo (.inr ⟨k, hk, by omega⟩) hlh (by omega) w, Addr.add_lit, Nat.add_assoc]
            have e3 : b.cap - skip - l = b.cap - (skip + l) := by omega
            rw [e3]
            rfl
          · cases h
        · cases h
      · cases h
    · cases h
  · cases h

theorem bytesOf_sound : ∀ {l : List AV} {b : SE} {vs : List Value}, dvl bs ρ l = some vs → bytesOf l = some b → vs = (dens ρ b).map (fun n => Value.int .u8 n) ∧ (dens ρ b).all (inR .u8) = true
  | [], b, vs, hl, h => by cases hl; cases h; exact ⟨rfl, rfl⟩
  | a :: l, b, vs, hl, h => by
    simp only [dvl, Option.bind_eq_some_iff, Option.map_eq_some_iff] at hl
    obtain ⟨u, hu, us, hus, rfl⟩ := hl
    unfold bytesOf at h
    split at h
    · rename_i heq; cases heq
    · rename_i e r heq
      cases heq
      simp only [Option.map_eq_some_iff] at h
      obtain ⟨b', hb', rfl⟩ := h
      obtain ⟨rfl, hr⟩ := dv_int hu
      obtain ⟨h1, h2⟩ := bytesOf_sound hus hb'
      simp [dens, h1, hr]
      simpa using h2
    · cases h

theorem foldl_push (xs : List Int) : ∀ s : ByteArray, xs.foldl (fun r n => r.push (UInt8.ofNat n.toNat)) s = ⟨s.data ++ (xs.map fun n => n.toNat.toUInt8).toArray⟩ := by
  induction xs with
  | nil => intro s; simp
  | cons x xs ih =>
    intro s
    rw [List.foldl_cons, ih]
    congr 1
    apply Array.ext'
    simp [ByteArray.push]

theorem run_bytes {src dst e : TypeId} (hs : P.underlying src = some (.slice e)) (he : P.underlying e = some (.int .u8)) (hd : P.underlying dst = some .string) (xs : List Int) (a : Addr) (len cap : Nat) (hlen : xs.length = len)
    (h : ∀ (j : Nat) v, (xs.map (Value.int .u8))[j]? = some v → w.cell? (a.add j) = some v) :
    (convert src dst (.slice (some a) len cap)).run P w = .ok (.string ⟨(xs.map fun n => n.toNat.toUInt8).toArray⟩) w := by
  have hl := run_loadCells_list (P := P) w a (xs.map (Value.int .u8)) h
  simp only [List.length_map, hlen] at hl
  rw [run_convert_bytes_string w src dst e _ len cap hs he hd, run_bytesToString w a len cap xs hl, foldl_push]
  simp [ByteArray.empty, ByteArray.emptyWithCapacity]
  rfl

theorem dvl_rows (row : List Col) (n : Nat) (off : Nat) (h : ∀ (i j : Nat) p, i < n → row[j]? = some p → colOk ρ ((off + i : Nat) : Int) p = true) :
    dvl bs ρ ((List.range n).flatMap fun j => rowAt row (.lit (off + j : Nat))) = some ((List.range n).flatMap fun j => row.map fun p => colV ρ ((off + j : Nat) : Int) p) := by
  induction n with
  | zero => rfl
  | succ n ih =>
    rw [List.range_succ, List.flatMap_append, List.flatMap_append]
    refine dvl_append (ih fun i j p hi hp => h i j p (by omega) hp) ?_
    simp only [List.flatMap_cons, List.flatMap_nil, List.append_nil]
    exact dvl_rowAt row (.lit (off + n : Nat)) (fun j p hp => h n j p (by omega) hp)

theorem bytesA_sound {mem : List AObj} {src dst : TypeId} {x r : AV} {u : Value} {reqs : List SE} (hm : MRel bs ρ mem w) (hx : dv bs ρ x = some u) (h : bytesA P mem src dst x = some (reqs, r)) (hr : ∀ c ∈ reqs, evB ρ c = true) :
    ∃ z, dv bs ρ r = some z ∧ (convert src dst u).run P w = .ok z w := by
  unfold bytesA at h
  split at h
  · rename_i e hs hd
    split at h
    · rename_i he
      split at h
      · cases h; cases hx
        refine ⟨.string .empty, by simp [dv, dens]; rfl, ?_⟩
        rw [run_convert_bytes_string w src dst e _ 0 0 hs he hd]
        rfl
      · rename_i id off n sk
        split at h
        · rename_i c ty own g ho
          split at h
          · rename_i hn
            simp only [Option.bind_eq_some_iff, Option.map_eq_some_iff, Prod.mk.injEq] at h
            obtain ⟨l, hl, b, hb, rfl, rfl⟩ := h
            obtain ⟨en, hen, vs, tail, hvs, ⟨pre, hheap, hpre⟩, _⟩ := hm _ _ ho
            obtain ⟨en', hen', _, hx⟩ := dv_row hx
            rw [hen] at hen'; cases hen'
            subst hx
            simp only [takeC] at hl
            split at hl
            · rename_i hle
              cases hl
              have hus := dvl_take (dvl_drop hvs off) n.toNat
              have hvl := dvl_length hvs
              obtain ⟨e1, e2⟩ := bytesOf_sound hus hb
              refine ⟨_, by simp only [dv, e2, if_true]; rfl, ?_⟩
              have hlen : (dens ρ b).length = n.toNat := by
                have := congrArg List.length e1
                simp only [List.length_map, List.length_take, List.length_drop] at this
                omega
              have hden : (den ρ (.lit n)).toNat = n.toNat := rfl
              rw [hden]
              refine run_bytes hs he hd _ _ _ _ hlen (fun j v hv => ?_)
              rw [← e1] at hv
              rw [add_at, Nat.add_assoc]
              rw [List.getElem?_take] at hv
              split at hv
              · rw [List.getElem?_drop] at hv
                refine cells_at hheap hpre ?_
                rw [List.getElem?_append_left (List.getElem?_eq_some_iff.1 hv).1]
                exact hv
              · cases hv
            · cases hl
          · cases h
        · cases h
      · rename_i id off n cap
        split at h
        · rename_i m capm row ty ho
          split at h
          · rename_i hn
            obtain ⟨hn0, hrow⟩ := hn
            simp only [Option.map_eq_some_iff, Prod.mk.injEq] at h
            obtain ⟨b, hb, rfl, rfl⟩ := h
            obtain ⟨en, hen, _, _, e3, e4, e5, e6⟩ := hm _ _ ho
            simp only [dv, hen, Option.map_some, Option.some.injEq] at hx
            subst hx
            have h2 := hr (mkCmp .leq (.lit (off + n.toNat : Nat)) m) (List.mem_cons_self ..)
            have h3 := hr (mkCmp .lss (.lit 0) m) (List.mem_cons_of_mem _ (List.mem_singleton.2 rfl))
            rw [evB_mkCmp] at h2 h3
            replace h2 : ((off + n.toNat : Nat) : Int) ≤ den ρ m := of_decide_eq_true h2
            replace h3 : 0 < den ρ m := of_decide_eq_true h3
            obtain ⟨_, _, hcs⟩ := e6 (by omega)
            have hus := dvl_rows (bs := bs) (ρ := ρ) row n.toNat off (fun i j p hi hp => (hcs (off + i) j p (by omega) hp).2)
            obtain ⟨e1, e2⟩ := bytesOf_sound hus hb
            refine ⟨_, by simp only [dv, e2, if_true]; rfl, ?_⟩
            obtain ⟨p0, hp0⟩ := List.length_eq_one_iff.1 hrow
            subst hp0
            have hone : ((List.range n.toNat).flatMap fun j => [p0].map fun p => colV ρ ((off + j : Nat) : Int) p) = (List.range n.toNat).map fun j => colV ρ ((off + j : Nat) : Int) p0 := by
              simp only [List.map_cons, List.map_nil]
              exact List.map_eq_flatMap.symm
            rw [hone] at e1
            have hlen : (dens ρ b).length = n.toNat := by
              have := congrArg List.length e1
              simpa using this.symm
            have hden : (den ρ (.lit n)).toNat = n.toNat := rfl
            rw [hden]
            refine run_bytes hs he hd _ _ _ _ hlen (fun j v hv => ?_)
            rw [← e1] at hv
            rw [add_at]
            rw [List.getElem?_map, Option.map_eq_some_iff] at hv
            obtain ⟨k, hk, rfl⟩ := hv
            have hj : j < n.toNat := by
              have := (List.getElem?_eq_some_iff.1 hk).1
              simpa using this
            rw [List.getElem?_range hj] at hk
            cases hk
            have := (hcs (off + j) 0 p0 (by omega) rfl).1
            simpa [Nat.add_assoc] using this
          · cases h
        · cases h
      · cases h
    · cases h
  · cases h

theorem pureA0_sound {mem : List AObj} {ev : Operand → Option AV} {e : Operand → Value} (hev : ∀ x a, ev x = some a → dv bs ρ a = some (e x)) (hm : MRel bs ρ mem w)
    {o : Oper} {reqs : List SE} {r : AV} (h : pureA0 P mem ev o.op = some (reqs, r)) (hr : ∀ c ∈ reqs, evB ρ c = true) :
    ∃ z, dv bs ρ r = some z ∧ (execOp e o).run P w = .ok (.value z) w := by
  have val : ∀ (s : Sem Value) (z : Value), s.run P w = .ok z w → ((do pure (.value (← s))) : Sem Next).run P w = .ok (.value z) w := fun s z hs => by simp [hs]
  obtain ⟨dst, op, type, pos, after, guard⟩ := o
  simp only at h
  unfold pureA0 at h
  split at h
  · rename_i x
    simp only [Option.map_eq_some_iff, Prod.mk.injEq] at h
    obtain ⟨a, ha, rfl, rfl⟩ := h
    exact ⟨_, hev _ _ ha, rfl⟩
  · rename_i x
    simp only [Option.map_eq_some_iff, Prod.mk.injEq] at h
    obtain ⟨a, ha, rfl, rfl⟩ := h
    exact ⟨_, hev _ _ ha, rfl⟩
  · rename_i c a b
    split at h
    · rename_i n hc
      simp only [Option.map_eq_some_iff, Prod.mk.injEq] at h
      obtain ⟨a', ha, rfl, rfl⟩ := h
      have hc' := hev _ _ hc
      simp only [dv, Option.some.injEq] at hc'
      split at ha
      · rename_i hn
        refine ⟨_, hev _ _ ha, ?_⟩
        simp [execOp, ← hc', asBool, evB, den, hn]
      · rename_i hn
        refine ⟨_, hev _ _ ha, ?_⟩
        simp only [ne_eq, Decidable.not_not] at hn
        simp [execOp, ← hc', asBool, evB, den, hn]
    · cases h
  · rename_i x
    split at h
    · rename_i id off hx
      cases h
      have hx' := hev _ _ hx
      refine ⟨_, hx', ?_⟩
      simp only [dv, Option.map_eq_some_iff] at hx'
      obtain ⟨b, _, hb⟩ := hx'
      simp [execOp, ← hb]
    · rename_i hx
      cases h
      have hx' := hev _ _ hx
      refine ⟨_, hx', ?_⟩
      simp only [dv, Option.map_eq_some_iff] at hx'
      obtain ⟨b, _, hb⟩ := hx'
      simp [execOp, ← hb]
    · rename_i hx
      cases h
      have hx' := hev _ _ hx
      refine ⟨_, hx', ?_⟩
      simp only [dv, Option.some.injEq] at hx'
      simp [execOp, ← hx']
    · rename_i hx
      cases h
      have hx' := hev _ _ hx
      refine ⟨_, hx', ?_⟩
      simp only [dv, Option.map_eq_some_iff] at hx'
      obtain ⟨b, _, hb⟩ := hx'
      simp [execOp, ← hb]
    · cases h
  · rename_i op t x y yt
    simp only [Option.bind_eq_some_iff] at h
    obtain ⟨a, ha, b, hb, h⟩ := h
    obtain ⟨z, hz, hrun⟩ := binA_sound (hev _ _ ha) (hev _ _ hb) h hr
    exact ⟨z, hz, val _ _ (hrun x y w)⟩
  · rename_i op t x
    simp only [Option.map_eq_some_iff, Option.bind_eq_some_iff, Prod.mk.injEq] at h
    obtain ⟨a, ⟨b, hb, ha⟩, rfl, rfl⟩ := h
    obtain ⟨z, hz, hrun⟩ := unA_sound (P := P) (hev _ _ hb) ha
    exact ⟨z, hz, val _ _ (hrun w)⟩
  · rename_i s d x
    simp only [Option.bind_eq_some_iff] at h
    obtain ⟨a, ha, h⟩ := h
    split at h
    · rename_i r' hc
      cases h
      obtain ⟨z, hz, hrun⟩ := convA_sound (P := P) (hev _ _ ha) hc
      exact ⟨z, hz, val _ _ (hrun w)⟩
    · obtain ⟨z, hz, hrun⟩ := bytesA_sound (P := P) hm (hev _ _ ha) h hr
      exact ⟨z, hz, val _ _ hrun⟩
  · rename_i t x lo hi
    simp only [Option.bind_eq_some_iff] at h
    obtain ⟨a, ha, l, hl, r', hr', h⟩ := h
    have opt : ∀ (y : Option Operand) (q : Option AV), (match y with | none => some none | some y => (ev y).map some : Option (Option AV)) = some q →
        (∀ a, q = some a → ∃ u, y.map e = some u ∧ dv bs ρ a = some u) ∧ (q = none → y.map e = none) := by
      intro y q hq
      cases y with
      | none => cases hq; exact ⟨(fun a h => by cases h), fun _ => rfl⟩
      | some y =>
        simp only [Option.map_eq_some_iff] at hq
        obtain ⟨b, hb, rfl⟩ := hq
        exact ⟨(fun a h => by cases h; exact ⟨_, rfl, hev _ _ hb⟩), (fun h => by cases h)⟩
    obtain ⟨l1, l2⟩ := opt lo l hl
    obtain ⟨h1, h2⟩ := opt hi r' hr'
    obtain ⟨z, hz, hrun⟩ := sliceA_sound (P := P) hm (hev _ _ ha) l1 l2 h1 h2 h hr
    exact ⟨z, hz, val _ _ hrun⟩
  · rename_i t x
    split at h
    · rename_i hc
      simp only [Option.map_eq_some_iff, Prod.mk.injEq] at h
      obtain ⟨a, ⟨b, hb, ha⟩, rfl, rfl⟩ := h
      subst ha
      refine ⟨.iface t (e x), by simp [dv, hev _ _ hb], val _ _ (run_makeInterface w t _ hc)⟩
    · cases h
  · rename_i f first cap
    split at h
    · rename_i hf
      simp only [Option.map_eq_some_iff, Prod.mk.injEq] at h
      obtain ⟨a, ⟨l, hl, ha⟩, rfl, rfl⟩ := h
      subst ha
      refine ⟨.func (.func f) #[] (cap.map e), ?_, ?_⟩
      · simp [dv, dvs_ofList, evs_sound hev hl]
        apply Array.ext'
        simp
      · have : first = #[] := by simpa using hf
        simp [execOp, Instr.makeFunc, this]
    · cases h
  · rename_i t x f
    simp only [Option.map_eq_some_iff, Option.bind_eq_some_iff, Prod.mk.injEq] at h
    obtain ⟨a, ⟨b, hb, ha⟩, rfl, rfl⟩ := h
    obtain ⟨z, hz, hrun⟩ := fieldAddrA_sound (P := P) (hev _ _ hb) ha
    exact ⟨z, hz, val _ _ (hrun w)⟩
  · rename_i t x f
    simp only [Option.map_eq_some_iff, Option.bind_eq_some_iff, Prod.mk.injEq] at h
    obtain ⟨a, ⟨b, hb, ha⟩, rfl, rfl⟩ := h
    obtain ⟨z, hz, hrun⟩ := fieldA_sound (P := P) (w := w) (hev _ _ hb) ha
    exact ⟨z, hz, val _ _ hrun⟩
  · rename_i t x i
    simp only [Option.bind_eq_some_iff] at h
    obtain ⟨a, ha, b, hb, h⟩ := h
    obtain ⟨z, hz, hrun⟩ := indexAddrA_sound (P := P) hm (hev _ _ ha) (hev _ _ hb) h hr
    exact ⟨z, hz, val _ _ (hrun w)⟩
  · rename_i t x i
    simp only [Option.map_eq_some_iff, Option.bind_eq_some_iff, Prod.mk.injEq] at h
    obtain ⟨a, ⟨c, hc, b, hb, ha⟩, rfl, rfl⟩ := h
    obtain ⟨z, hz, hrun⟩ := indexA_sound (P := P) (w := w) (hev _ _ hc) (hev _ _ hb) ha
    exact ⟨z, hz, val _ _ hrun⟩
  · rename_i t x
    simp only [Option.bind_eq_some_iff] at h
    obtain ⟨a, ha, h⟩ := h
    obtain ⟨z, hz, hrun⟩ := loadA_sound (P := P) hm (hev _ _ ha) h hr
    exact ⟨z, hz, val _ _ hrun⟩
  · rename_i x i
    split at h
    · rename_i l hx
      simp only [Option.map_eq_some_iff, Prod.mk.injEq] at h
      obtain ⟨a, ha, rfl, rfl⟩ := h
      have hx' := hev _ _ hx
      simp only [dv, Option.map_eq_some_iff] at hx'
      obtain ⟨vs, hvs, hb⟩ := hx'
      obtain ⟨z, hz, hdz⟩ := dvl_get (dvl_members l hvs) ha
      exact ⟨z, hdz, by simp [execOp, ← hb, Instr.extract, hz]⟩
    · cases h
  · rename_i t ps
    simp only [Option.map_eq_some_iff, Option.bind_eq_some_iff, Prod.mk.injEq] at h
    obtain ⟨a, ⟨l, hl, ha⟩, rfl, rfl⟩ := h
    obtain ⟨h1, h2⟩ := partsA_sound hev hl
    obtain ⟨z, hz, hrun⟩ := buildA_sound (P := P) (w := w) (by simp [h1]) h2 ha
    refine ⟨z, hz, val _ _ ?_⟩
    have : (ps.map fun (i, x) => (i, e x)) = (ps.toList.map fun (i, x) => (i, e x)).toArray := by apply Array.ext'; simp
    rw [this]
    exact hrun
  · rename_i c
    split at h
    · rename_i b hcal
      simp only [Option.bind_eq_some_iff] at h
      obtain ⟨l, hl, h⟩ := h
      obtain ⟨z, hz, hrun⟩ := builtinA_sound (w := w) (ty := type) (cs := c.args.map fun | .const _ => true | _ => false) hm (evs_sound hev hl) h hr
      refine ⟨z, hz, ?_⟩
      have : c.args.map e = (c.args.toList.map e).toArray := by apply Array.ext'; simp
      simp only [execOp, resolve, hcal, pure_bind, invoke, this]
      exact hrun
    · cases h
  · cases h


/-! ### texts, bound methods, maps -/
theorem idxS_sound {s : ByteArray} {n : Int} {r : AV} (h : idxS s n = some r) : 0 ≤ n ∧ ∃ b, s[n.toNat]? = some b ∧ dv bs ρ r = some (.int .u8 b.toNat) := by
  unfold idxS at h
  split at h
  · rename_i h0
    simp only [Option.map_eq_some_iff] at h
    obtain ⟨b, hb, rfl⟩ := h
    refine ⟨h0, b, ?_, dv_int_mk (e := .lit _) ?_⟩
    · obtain ⟨hlt, hg⟩ := List.getElem?_eq_some_iff.1 hb
      have hs : n.toNat < s.size := by simpa using hlt
      rw [getElem?_pos s n.toNat hs]
      congr 1
    · have := b.toNat_lt
      exact decide_eq_true ⟨show (0 : Int) ≤ (b.toNat : Int) by omega, show (b.toNat : Int) ≤ 255 by omega⟩
  · cases h
theorem extract_list (s : ByteArray) (l h : Nat) : (⟨((s.data.toList.take h).drop l).toArray⟩ : ByteArray) = s.extract l h := by
  apply ByteArray.ext
  apply Array.ext'
  simp [ByteArray.data_extract, List.drop_take]
theorem optA_sound {ev : Operand → Option AV} {e : Operand → Value} (hev : ∀ x a, ev x = some a → dv bs ρ a = some (e x)) {y : Option Operand} {o : Option AV} (h : optA ev y = some o) :
    (∀ a, o = some a → ∃ u, y.map e = some u ∧ dv bs ρ a = some u) ∧ (o = none → y.map e = none) := by
  cases y with
  | none => cases h; exact ⟨fun a h => by (cases h), fun _ => rfl⟩
  | some y =>
    simp only [optA, Option.map_eq_some_iff] at h
    obtain ⟨a, ha, rfl⟩ := h
    exact ⟨fun b hb => by cases hb; exact ⟨e y, rfl, hev _ _ ha⟩, fun h => by cases h⟩
theorem litOf_val {l : Option AV} {l' : Option Nat} {v : Option Value} (h : litOf l = some l') (h1 : ∀ a, l = some a → ∃ u, v = some u ∧ dv bs ρ a = some u) (h2 : l = none → v = none) :
    (l' = none ∧ v = none) ∨ ∃ n k, l' = some n ∧ v = some (.int k (n : Int)) := by
  unfold litOf at h
  split at h
  · cases h; exact .inl ⟨rfl, h2 rfl⟩
  · rename_i k n
    split at h
    · rename_i h0
      cases h
      obtain ⟨u, hu, hd⟩ := h1 _ rfl
      obtain ⟨rfl, _⟩ := dv_int hd
      exact .inr ⟨n.toNat, k, rfl, by rw [hu]; simp only [den]; rw [Int.toNat_of_nonneg h0]⟩
    · cases h
  · cases h
theorem run_sliceS {t : TypeId} (hu : P.underlying t = some .string) {s : ByteArray} {lo hi : Option Value} {l h : Nat}
    (hlo : (lo = none ∧ l = 0) ∨ ∃ k, lo = some (.int k (l : Int))) (hhi : (hi = none ∧ h = s.size) ∨ ∃ k, hi = some (.int k (h : Int))) (hlh : l ≤ h) (hle : h ≤ s.size) (w : World) :
    (Instr.sliceAt t (.string s) lo hi none).run P w = .ok (.string (s.extract l h)) w := by
  have hb : (Instr.sliceBounds false s.size s.size lo hi none).run P w = .ok (l, h, s.size) w := by
    rcases hlo with ⟨rfl, rfl⟩ | ⟨k, rfl⟩ <;> rcases hhi with ⟨rfl, rfl⟩ | ⟨k', rfl⟩
    · simp [Instr.sliceBounds]
    · simp [Instr.sliceBounds, run_sliceBound _ hle]
    · simp [Instr.sliceBounds, run_sliceBound _ hlh]
    · simp [Instr.sliceBounds, run_sliceBound _ hle, run_sliceBound _ hlh]
  simp only [Instr.sliceAt, Sem.run_bind, run_underlying hu, Result.andThen_ok, Instr.slice]
  simp [hb]

theorem pureB_sound {mem : List AObj} {ev : Operand → Option AV} {e : Operand → Value} (hev : ∀ x a, ev x = some a → dv bs ρ a = some (e x)) (hm : MRel bs ρ mem w)
    {o : Oper} {r : AV} (h : pureB P mem ev o.op = some r) :
    ∃ z, dv bs ρ r = some z ∧ (execOp e o).run P w = .ok (.value z) w := by
  have val : ∀ (s : Sem Value) (z : Value), s.run P w = .ok z w → ((do pure (.value (← s))) : Sem Next).run P w = .ok (.value z) w := fun s z hs => by simp [hs]
  obtain ⟨dst, op, type, pos, after, guard⟩ := o
  simp only at h
  unfold pureB at h
  split at h
  · rename_i t x i
    split at h
    · rename_i s k n ht hx hi
      obtain ⟨h0, b, hb, hd⟩ := idxS_sound (bs := bs) (ρ := ρ) h
      have hx' := hev _ _ hx
      obtain ⟨hi', _⟩ := dv_int (hev _ _ hi)
      simp only [dv, Option.some.injEq] at hx'
      refine ⟨_, hd, val _ _ ?_⟩
      rw [← hx', hi']
      simp only [den]
      simp [Instr.index, asIntOf, run_underlying ht, h0, hb]
    · cases h
  · rename_i t x lo hi
    split at h
    · rename_i s l h1 ht hx hlo hhi
      simp only [Option.bind_eq_some_iff] at h
      obtain ⟨l', hl', h', hh', h⟩ := h
      obtain ⟨a1, a2⟩ := optA_sound hev hlo
      obtain ⟨b1, b2⟩ := optA_sound hev hhi
      have hx' := hev _ _ hx
      simp only [dv, Option.some.injEq] at hx'
      have hL := litOf_val hl' a1 a2
      have hH := litOf_val hh' b1 b2
      unfold sliceS at h
      simp only at h
      split at h
      · rename_i hle
        cases h
        refine ⟨.string (s.extract (l'.getD 0) (h'.getD s.size)), by simp only [dv, extract_list], val _ _ ?_⟩
        rw [← hx']
        refine run_sliceS (P := P) ht ?_ ?_ hle.1 hle.2 w
        · rcases hL with ⟨rfl, e0⟩ | ⟨n, k, rfl, e0⟩
          · exact .inl ⟨e0, rfl⟩
          · exact .inr ⟨k, e0⟩
        · rcases hH with ⟨rfl, e0⟩ | ⟨n, k, rfl, e0⟩
          · exact .inl ⟨e0, rfl⟩
          · exact .inr ⟨k, e0⟩
      · cases h
    · rename_i el id off n skip l ht hx hlo hhi
      split at h
      · rename_i l' s c ty ow s' hl' hs hid
        split at h
        · rename_i hc
          obtain ⟨rfl, hs0, hl0, rfl, hoff, hle⟩ := hc
          cases h
          obtain ⟨a1, a2⟩ := optA_sound hev hlo
          obtain ⟨b1, b2⟩ := optA_sound hev hhi
          have hL := litOf_val hl' a1 a2
          have hH0 : hi.map e = none := b2 rfl
          obtain ⟨b, hb, hcap, hx'⟩ := dv_row (hev _ _ hx)
          rcases hL with ⟨e1, _⟩ | ⟨m, k, e1, e2⟩
          · cases e1
          · cases e1
            have hden : (den ρ (.lit (l' : Int))).toNat = l' := by simp [den]
            rw [hden] at hcap hx'
            have hbd : (Instr.sliceBounds true l' (b.cap - skip) (some (.int k (l' : Int))) none none).run P w = .ok (l', l', b.cap - skip) w := by
              simp [Instr.sliceBounds, run_sliceBound _ (Nat.le_refl l')]
            refine ⟨if b.cap = skip + l' then .slice (some ⟨b.blk, b.base + off, none⟩) 0 0 else .slice (some ⟨b.blk, b.base + (off + l' * s'), none⟩) 0 (b.cap - (skip + l')), by simp only [dv, hb, Option.map_some], val _ _ ?_⟩
            show (Instr.sliceAt t (e x) (lo.map e) (hi.map e) none).run P w = _
            rw [← hx', e2, hH0]
            simp only [Instr.sliceAt, Sem.run_bind, run_underlying ht, Result.andThen_ok, Instr.slice, hbd, run_sizeA hs, Sem.run_pure]
            congr 1
            by_cases hq : b.cap = skip + l'
            · rw [if_pos hq, if_pos (by omega)]
              congr 1 <;> omega
            · rw [if_neg hq, if_neg (by omega)]
              rw [Option.map_some, add_at, Nat.add_assoc]
              congr 1 <;> omega
        · cases h
      · cases h
    · cases h
  · rename_i op t x y yt
    split at h
    · rename_i a b hx hy
      split at h
      · rename_i hle
        cases h
        have hx' := hev _ _ hx
        have hy' := hev _ _ hy
        simp only [dv, Option.some.injEq] at hx' hy'
        refine ⟨.string (a ++ b), ?_, ?_⟩
        · simp only [dv, Option.some.injEq, Value.string.injEq]
          apply ByteArray.ext
          apply Array.ext'
          simp
        · have hz : ¬ ((a.size + b.size : Nat) : Int) > IntKind.i64.max := by
            have : IntKind.i64.max = 9223372036854775807 := rfl
            omega
          simp only [execOp, ← hx', ← hy', eqGuard_add, binOp, Op.stringOp, pure_bind]
          rw [if_neg hz]
          rfl
      · cases h
    · rename_i hx hy
      split at h
      · rename_i ms v ht
        cases h
        have hx' := hev _ _ hx
        have hy' := hev _ _ hy
        simp only [dv, Option.some.injEq] at hx' hy'
        refine ⟨.bool true, rfl, ?_⟩
        have h1 : (eqGuard .eql t x (.const v) .nilIface .nilIface).run P w = .ok () w := by simp [eqGuard]
        have h2 : (Op.equal t .nilIface .nilIface).run P w = .ok true w := by
          have : ∀ d, (Op.equalIn (d + 1) t .nilIface .nilIface).run P w = .ok true w := fun d => by simp [Op.equalIn, run_underlying ht]
          exact this 9999
        have h3 : binOp .eql t .nilIface .nilIface = (do pure (.bool (← Op.equal t .nilIface .nilIface))) := rfl
        simp only [execOp, ← hx', ← hy', h3]
        simp [h1, h2]
      · cases h
    · rename_i hx hy
      split at h
      · rename_i ms v ht
        cases h
        have hx' := hev _ _ hx
        have hy' := hev _ _ hy
        simp only [dv, Option.some.injEq] at hx' hy'
        refine ⟨.bool false, rfl, ?_⟩
        have h1 : (eqGuard .neq t x (.const v) .nilIface .nilIface).run P w = .ok () w := by simp [eqGuard]
        have h2 : (Op.equal t .nilIface .nilIface).run P w = .ok true w := by
          have : ∀ d, (Op.equalIn (d + 1) t .nilIface .nilIface).run P w = .ok true w := fun d => by simp [Op.equalIn, run_underlying ht]
          exact this 9999
        have h3 : binOp .neq t .nilIface .nilIface = (do pure (.bool (!(← Op.equal t .nilIface .nilIface)))) := rfl
        simp only [execOp, ← hx', ← hy', h3]
        simp [h1, h2]
      · cases h
    · cases h
  · rename_i f first cap
    split at h
    · rename_i hc
      simp only [Option.map_eq_some_iff] at h
      obtain ⟨l, hl, rfl⟩ := h
      have := evs_sound hev hl
      refine ⟨.func (.func f) (first.map e) (cap.map e), ?_, val _ _ ?_⟩
      · simp only [dv, dvs_ofList, this, Option.map_some, Option.some.injEq, Value.func.injEq, true_and]
        constructor
        · apply Array.ext'; simp
        · have : cap = #[] := Array.eq_empty_of_size_eq_zero hc
          simp [this]
      · simp [Instr.makeFunc]
    · cases h
  · rename_i c
    split at h
    · rename_i x t hcal hargs hts
      split at h
      · rename_i kt et id ht hx
        split at h
        · rename_i ks vs hid
          split at h
          · rename_i hin
            cases h
            obtain ⟨b, hb, us, es, clock, hus, hnd, hl, hheap, l, hes, hperm, _⟩ := hm _ _ hid
            have hx' := hev _ _ hx
            simp only [dv, hb, Option.map_some, Option.some.injEq] at hx'
            have hsz : es.size = ks.length := by
              have h1 := congrArg List.length hes
              have h2 := hperm.length_eq
              simp only [List.length_map, List.length_zip, Array.length_toList] at h1 h2
              omega
            refine ⟨.int .i64 (ks.length : Int), dv_int_mk (e := .lit _) hin, ?_⟩
            have hg2 : (getObj b.blk).run P w = .ok (.map es clock) w := Go.MapKept.run_getObj_map (P := P) hheap
            have hrun : (Builtin.len_ #[t] type #[e x]).run P w = .ok (.int .i64 (ks.length : Int)) w := by
              rw [← hx']
              simp [Builtin.len_, run_underlying ht, hg2, hsz, goInt]
            have hca : c.args.map e = #[e x] := by apply Array.ext'; simp [hargs]
            have hct : c.argTypes = #[t] := by apply Array.ext'; rw [hts]
            simp only [execOp, resolve, hcal, pure_bind, invoke, hca, hct]
            exact val _ _ hrun
          · cases h
        · cases h
      · rename_i et id o0 o1 sk ht hx
        cases h
        have hx' := hev _ _ hx
        simp only [dv, Option.map_eq_some_iff] at hx'
        obtain ⟨b, hb, hx'⟩ := hx'
        refine ⟨.int .i64 0, dv_int_mk (e := .lit 0) (show inR .i64 0 = true by decide), ?_⟩
        have hrun : (Builtin.len_ #[t] type #[e x]).run P w = .ok (.int .i64 0) w := by
          rw [← hx']
          split <;> simp [Builtin.len_, run_underlying ht, goInt]
        have hca : c.args.map e = #[e x] := by apply Array.ext'; simp [hargs]
        have hct : c.argTypes = #[t] := by apply Array.ext'; rw [hts]
        simp only [execOp, resolve, hcal, pure_bind, invoke, hca, hct]
        exact val _ _ hrun
      · cases h
    · cases h
  · cases h

theorem pureA_sound {mem : List AObj} {ev : Operand → Option AV} {e : Operand → Value} (hev : ∀ x a, ev x = some a → dv bs ρ a = some (e x)) (hm : MRel bs ρ mem w)
    {o : Oper} {reqs : List SE} {r : AV} (h : pureA P mem ev o.op = some (reqs, r)) (hr : ∀ c ∈ reqs, evB ρ c = true) :
    ∃ z, dv bs ρ r = some z ∧ (execOp e o).run P w = .ok (.value z) w := by
  unfold pureA at h
  split at h
  · rename_i r0 h0
    cases h
    exact pureA0_sound hev hm h0 hr
  · simp only [Option.map_eq_some_iff, Prod.mk.injEq] at h
    obtain ⟨a, ha, _, rfl⟩ := h
    exact pureB_sound hev hm ha

end Go.SX

/- Symbolic execution of the model's code, part 6: the operations that make or write memory. -/
namespace Go.SX
set_option linter.unusedSimpArgs false
set_option linter.unusedVariables false

/-- One cell alone may hold it. -/
def AV.one : AV → Bool
  | .agg _ | .tuple _ | .nil | .cons _ _ => false
  | _ => true

def setMem (mem : List AObj) (id : Nat) (o : AObj) : List AObj := mem.set id o

/-- What a map has at a key, and where. -/
def findK {α : Type} (q : MK) : List MK → List α → Nat → Option (Nat × α)
  | k :: ks, v :: vs, i => if beqK q k = true then some (i, v) else findK q ks vs (i + 1)
  | _, _, _ => none
def intsOf : List AV → Option (List (IntKind × Int))
  | [] => some []
  | .int k (.lit n) :: r => if inR k n = true then (intsOf r).map fun l => (k, n) :: l else none
  | _ => none
def keyOf : AV → Option MK
  | .str s => some (.s s)
  | .int k (.lit n) => if inR k n = true then some (.i k n) else none
  | .agg l => (intsOf l.members).map .a
  | _ => none
/-- Is it a key of its type (one whose fields are whole numbers)? -/
def keyT (P : Program) (kt : TypeId) (q : MK) : Bool :=
  match q, P.underlying kt with
  | .s _, some .string => true
  | .i k _, some (.int k') => decide (k = k')
  | .a l, some (.struct fs) => fs.toList.all fun f => (match P.underlying f.type with
      | some (.int _) => true
      | _ => false) && (partA P f.type (l.map fun p => AV.int p.1 (.lit p.2)) f.offset).isSome
  | _, _ => false
/-- Is it known whether two are the same? -/
def cmpK (P : Program) (kt : TypeId) (q k : MK) : Bool :=
  match q with
  | .a _ => match eqA P kt q.av k.av with
    | some (.lit n) => decide (n = ofB (beqK q k))
    | _ => false
  | _ => true
def keysT (P : Program) (kt : TypeId) (q : MK) (ks : List MK) : Bool := keyT P kt q && ks.all fun k => keyT P kt k && cmpK P kt q k
def mapUpA (P : Program) (mem : List AObj) (t : TypeId) (m k x : Option AV) : Option (AV × List AObj) :=
  match P.underlying t, m, k.bind keyOf, x with
  | some (.map kt _), some (.mapv id), some q, some v => match mem[id]? with
    | some (.mp ks vs) => if keysT P kt q ks = true then match findK q ks vs 0 with
        | some (i, _) => some (.tuple .nil, mem.set id (.mp ks (vs.set i v)))
        | none => if ks.length = vs.length then some (.tuple .nil, mem.set id (.mp (insK q v ks vs).1 (insK q v ks vs).2)) else none
      else none
    | _ => none
  | _, _, _, _ => none
def mapA (P : Program) (mem : List AObj) (ev : Operand → Option AV) (op : Op) : Option (AV × List AObj) :=
  match op with
  | .makeMap _ none => some (.mapv mem.length, mem ++ [.mp [] []])
  | .lookup t x ix ok => match P.underlying t, ev x, (ev ix).bind keyOf with
    | some (.map kt e), some (.mapv id), some q => match mem[id]? with
      | some (.mp ks vs) => if keysT P kt q ks = true then match findK q ks vs 0 with
          | some (_, v) => some (if ok = true then .tuple (.cons v (.cons (.bool (.lit (ofB true))) .nil)) else v, mem)
          | none => (zeroA P e).map fun z => (if ok = true then .tuple (.cons z (.cons (.bool (.lit (ofB false))) .nil)) else z, mem)
        else none
      | _ => none
    | _, _, _ => none
  | .mapUpdate t m k x => mapUpA P mem t (ev m) (ev k) (ev x)
  | .insert t m k x => mapUpA P mem t (ev m) (ev k) (ev x)
  | .range t x => match P.underlying t, ev x with
    | some .string, some (.str s) => some (.ptr mem.length 0, mem ++ [.siter s 0])
    | some (.map _ _), some (.mapv id) => match mem[id]? with
      | some (.mp _ _) => some (.ptr mem.length 0, mem ++ [.iter id])
      | _ => none
    | _, _ => none
  | .next x true => match ev x with
    | some (.ptr id 0) => match mem[id]? with
      | some (.siter s p) => match s.data.toList[p]? with
        | some b => if b.toNat < 128 ∧ p ≤ 100000 then some (.tuple (.cons (.bool (.lit 1)) (.cons (.int .i64 (.lit (p : Int))) (.cons (.int .i32 (.lit (b.toNat : Int))) .nil))), mem.set id (.siter s (p + 1))) else none
        | none => some (.tuple (.cons (.bool (.lit 0)) .nil), mem)
      | _ => none
    | _ => none
  | _ => none
/-- 'append' to what is left of a row at its end. -/
def appE (P : Program) (mem : List AObj) (ev : Operand → Option AV) (op : Op) : Option (AV × List AObj) :=
  match op with
  | .call c => match c.callee, c.args.toList, c.argTypes.toList with
    | .builtin .append, [x, y], [t, t'] => if t ≠ t' then none else
      match P.underlying t with
      | some (.slice e) => match P.info? e with
        | some i => (zeroA P e).bind fun z => (ev x).bind fun a => (ev y).bind fun b =>
          if i.size = 0 ∨ z.cells.length ≠ i.size then none else
          match a, b with
          | .erow id _ off skip, .row id2 off2 (.lit m) _ => match mem[id]?, mem[id2]? with
            | some (.cells cc ty true (some s)), some (.cells c2 _ _ _) => (takeC c2 off2 (m.toNat * i.size)).bind fun news =>
              if id = id2 ∨ ty ≠ e ∨ s ≠ i.size ∨ off ≠ skip * s ∨ cc.length ≠ off ∨ m ≤ 0 ∨ news.all AV.one = false ∨ 100000 < m.toNat ∨ 1000000 < m.toNat * i.bytes then none else
              some (.row mem.length 0 (.lit m) 0, mem.set id .dead ++ [.cells news e true (some i.size)])
            | _, _ => none
          | _, _ => none
        | none => none
      | _ => none
    | _, _, _ => none
  | _ => none

/-- What must hold, the value, the memory behind. -/
def effA (P : Program) (mem : List AObj) (ev : Operand → Option AV) (op : Op) : Option (List SE × AV × List AObj) :=
  match op with
  | .alloc t => (zeroA P t).map fun z => ([], .ptr mem.length 0, mem ++ [.cells z.cells t true none])
  | .box t x => (ev x).map fun v => ([], .ptr mem.length 0, mem ++ [.cells v.cells t true none])
  | .buildSlice t len ps => match P.underlying t with
    | some (.slice e) => (sizeA P e).bind fun s => (zeroA P e).bind fun z =>
      if s = 0 ∨ z.cells.length ≠ s ∨ len * s > 1000 then none else
      (partsA ev ps.toList).bind fun l => (fillA (fun i => some (i * s, s)) ((List.range len).flatMap fun _ => z.cells) l).map fun c =>
        ([], .row mem.length 0 (.lit len) 0, mem ++ [.cells c e true (some s)])
    | _ => none
  | .makeSlice t n c => match P.underlying t, ev n, ev c with
    | some (.slice e), some (.int _ (.lit n)), some (.int _ (.lit c)) => match P.info? e with
      | some i => (zeroA P e).bind fun z =>
        if n ≠ c ∨ n < 0 ∨ 100000 < n ∨ i.size = 0 ∨ z.cells.length ≠ i.size ∨ 1000 < i.bytes then none else
        some ([], .row mem.length 0 (.lit n) 0, mem ++ [.cells ((List.range n.toNat).flatMap fun _ => z.cells) e true (some i.size)])
      | none => none
    | _, _, _ => none
  | .store t a x => (ev a).bind fun p => (ev x).bind fun v =>
    match p with
    | .ptr id off => match mem[id]? with
      | some (.cells c ty true g) =>
        if sizeA P t = some v.cells.length ∧ off + v.cells.length ≤ c.length ∧ v.cells.all AV.one = true then
          some ([], .tuple .nil, mem.set id (.cells (c.take off ++ v.cells ++ c.drop (off + v.cells.length)) ty true g))
        else none
      | _ => none
    | _ => none
  | .call c => match c.callee, c.args.toList, c.argTypes.toList with
    | .builtin .append, [x, y], [t, t'] => if t ≠ t' then none else
      match P.underlying t with
      | some (.slice e) => match P.info? e with
        | some i => (zeroA P e).bind fun z => (ev x).bind fun a => (ev y).bind fun b =>
          if i.size = 0 ∨ z.cells.length ≠ i.size then none else
          match b with
          | .row id2 off2 (.lit m) _ => match mem[id2]? with
            | some (.cells c2 _ _ _) => (takeC c2 off2 (m.toNat * i.size)).bind fun news =>
              if m ≤ 0 ∨ news.all AV.one = false then none else
              match a with
              | .nilslice => if m.toNat ≤ 100000 ∧ m.toNat * i.bytes ≤ 1000000 then some ([], .row mem.length 0 (.lit m) 0, mem ++ [.cells news e true (some i.size)]) else none
              | .row id 0 (.lit n) 0 => match mem[id]? with
                | some (.cells cc ty true (some s)) => if ty = e ∧ s = i.size ∧ 0 ≤ n ∧ cc.length = n.toNat * i.size ∧ n.toNat + m.toNat ≤ 100000 ∧ (n.toNat + m.toNat) * i.bytes ≤ 1000000 then
                    some ([], .row mem.length 0 (.lit (n + m)) 0, mem.set id .dead ++ [.cells (cc ++ news) e true (some i.size)]) else none
                | _ => none
              | _ => none
            | _ => none
          | _ => none
        | none => none
      | _ => none
    | _, _, _ => none
  | op => (mapA P mem ev op).map fun (v, m) => ([], v, m)
/-- 'effA', and what is behind it. -/
def effB (P : Program) (mem : List AObj) (ev : Operand → Option AV) (op : Op) : Option (List SE × AV × List AObj) :=
  match effA P mem ev op with
  | some r => some r
  | none => (appE P mem ev op).map fun (v, m) => ([], v, m)

def litIs (n : SE) (k : Nat) : Bool := match n with
  | .lit x => decide (x = (k : Int))
  | _ => false
theorem litIs_den {ρ : Env} {n : SE} {k : Nat} (h : litIs n k = true) : den ρ n = (k : Int) := by
  unfold litIs at h
  split at h
  · simpa [den] using h
  · cases h
/-- 'append' of an argument's bytes (or other members of one cell) to a row of one's own; p: of how many it is known that they are there. -/
def appA (P : Program) (mem : List AObj) (ev : Operand → Option AV) (op : Op) (p : Nat) : Option (List SE × AV × List AObj) :=
  match op with
  | .call c => match c.callee, c.args.toList, c.argTypes.toList with
    | .builtin .append, [x, y], [t, t'] => if t ≠ t' then none else
      match P.underlying t with
      | some (.slice e) => match P.info? e with
        | some i => (zeroA P e).bind fun z => (ev x).bind fun a => (ev y).bind fun b =>
          if i.size ≠ 1 ∨ z.cells.length ≠ 1 ∨ 1000 < i.bytes then none else
          match a, b with
          | .row id 0 n 0, .arg id2 => match mem[id]?, mem[id2]? with
            | some (.cells cc ty true (some s)), some (.sym m _ [q] _) => if ty ≠ e ∨ s ≠ 1 then none else
              let reqs := [mkCmp .leq (.lit cc.length) n, mkCmp .leq n (.lit 10000), mkCmp .leq m (.lit 10000), mkCmp .leq (.lit p) m]
              some (reqs, .row mem.length 0 (if beqS n (.lit 0) = true then m else mkBin .add .i64 n m) 0,
                mem.set id .dead ++ [.cells (if litIs n cc.length = true then cc ++ (List.range p).map fun (j : Nat) => colA (.lit (j : Int)) q else cc) e true (some 1)])
            | _, _ => none
          | _, _ => none
        | none => none
      | _ => none
    | _, _, _ => none
  | _ => none

/-! ### the relation to a world -/
variable {bs : List Ent} {ρ : Env} {P : Program} {w : World}

structure Keep (S : Nat → Prop) (w0 w : World) : Prop where
  os : w.os = w0.os
  tape : w.tape = w0.tape
  output : w.output = w0.output
  size : w0.heap.size ≤ w.heap.size
  block : ∀ b, S b → w.heap[b]? = w0.heap[b]?
  old : ∀ b, S b → b < w0.heap.size

def AObj.mine : AObj → Bool
  | .cells _ _ own _ => own
  | .mp _ _ => true
  | .iter .. => true
  | .siter .. => true
  | _ => false

/-- Does it take a block? (An empty row may lie nowhere.) -/
def Occ (ρ : Env) : AObj → Prop
  | .dead => False
  | .sym _ cap _ _ => 0 < den ρ cap
  | .cells .. => True
  | .mp .. => True
  | .iter .. => True
  | .siter .. => True
theorem Occ.mine {ρ : Env} {o : AObj} (h : o.mine = true) : Occ ρ o := by cases o <;> first | trivial | cases h
structure RelM (bs : List Ent) (ρ : Env) (S : Nat → Prop) (w0 : World) (mem : List AObj) (w : World) : Prop where
  len : bs.length = mem.length
  rel : MRel bs ρ mem w
  own : ∀ (i : Nat) (o : AObj) (b : Ent), mem[i]? = some o → o.mine = true → bs[i]? = some b → ¬ S b.blk
  apart : ∀ (i j : Nat) (o o' : AObj) (b b' : Ent), i ≠ j → mem[i]? = some o → mem[j]? = some o' → o.mine = true → Occ ρ o' → bs[i]? = some b → bs[j]? = some b' → b.blk ≠ b'.blk
  keep : Keep S w0 w

mutual
theorem dv_mono (ex : List Ent) : ∀ (a : AV) {v : Value}, dv bs ρ a = some v → dv (bs ++ ex) ρ a = some v
  | .int _ _, v, h | .bool _, v, h | .str _, v, h | .nilptr, v, h | .gptr _, v, h | .nilslice, v, h | .bstr _, v, h | .nilFunc, v, h | .nilIface, v, h | .nilmap, v, h | .xslice _ _ _ _, v, h => h
  | .row id off _ _, v, h => by
    obtain ⟨b, hb, hc, rfl⟩ := dv_row h
    exact dv_row_mk (by rw [List.getElem?_append_left (List.getElem?_eq_some_iff.1 hb).1]; exact hb) hc
  | .ptr id off, v, h | .sptr id _ _ off, v, h | .slice id off _ _, v, h | .arg id, v, h | .mapv id, v, h | .erow id _ _ _, v, h => by
    simp only [dv, Option.map_eq_some_iff] at h ⊢
    obtain ⟨b, hb, hv⟩ := h
    exact ⟨b, by rw [List.getElem?_append_left (List.getElem?_eq_some_iff.1 hb).1]; exact hb, hv⟩
  | .fn f c, v, h | .fnx f c, v, h => by
    simp only [dv, Option.map_eq_some_iff] at h ⊢
    obtain ⟨b, hb, hv⟩ := h
    exact ⟨b, dvs_mono ex c hb, hv⟩
  | .agg l, v, h | .tuple l, v, h => by
    simp only [dv, Option.map_eq_some_iff] at h ⊢
    obtain ⟨b, hb, hv⟩ := h
    exact ⟨b, dvs_mono ex l hb, hv⟩
  | .iface t x, v, h => by
    simp only [dv, Option.map_eq_some_iff] at h ⊢
    obtain ⟨b, hb, hv⟩ := h
    exact ⟨b, dv_mono ex x hb, hv⟩
  | .nil, v, h | .cons _ _, v, h => by simp [dv] at h
theorem dvs_mono (ex : List Ent) : ∀ (a : AV) {v : List Value}, dvs bs ρ a = some v → dvs (bs ++ ex) ρ a = some v
  | .nil, v, h => h
  | .cons a b, v, h => by
    simp only [dvs, Option.bind_eq_some_iff, Option.map_eq_some_iff] at h ⊢
    obtain ⟨x, hx, xs, hxs, hv⟩ := h
    exact ⟨x, dv_mono ex a hx, xs, dvs_mono ex b hxs, hv⟩
  | .int _ _, _, h | .bool _, _, h | .str _, _, h | .ptr _ _, _, h | .sptr _ _ _ _, _, h | .nilptr, _, h | .gptr _, _, h | .slice _ _ _ _, _, h | .arg _, _, h | .mapv _, _, h | .nilmap, _, h | .erow _ _ _ _, _, h | .row _ _ _ _, _, h | .nilslice, _, h | .bstr _, _, h | .xslice _ _ _ _, _, h
  | .fn _ _, _, h | .fnx _ _, _, h | .nilFunc, _, h | .iface _ _, _, h | .nilIface, _, h | .agg _, _, h | .tuple _, _, h => by simp [dvs] at h
end
theorem dvl_mono (ex : List Ent) : ∀ {l : List AV} {vs : List Value}, dvl bs ρ l = some vs → dvl (bs ++ ex) ρ l = some vs
  | [], vs, h => h
  | a :: l, vs, h => by
    simp only [dvl, Option.bind_eq_some_iff, Option.map_eq_some_iff] at h ⊢
    obtain ⟨x, hx, xs, hxs, hv⟩ := h
    exact ⟨x, dv_mono ex a hx, xs, dvl_mono ex hxs, hv⟩

theorem ORel.mono {b : Ent} {o : AObj} (ex : List Ent) (h : ORel bs ρ w b o) : ORel (bs ++ ex) ρ w b o := by
  cases o with
  | cells c ty own g => obtain ⟨vs, tail, h1, h2, h3⟩ := h; exact ⟨vs, tail, dvl_mono ex h1, h2, h3⟩
  | sym n cap row ty => exact h
  | mp ks vs => obtain ⟨us, es, clock, h1, h2⟩ := h; exact ⟨us, es, clock, dvl_mono ex h1, h2⟩
  | iter m => obtain ⟨bm, since, h1, h2⟩ := h; exact ⟨bm, since, by rw [List.getElem?_append_left (List.getElem?_eq_some_iff.1 h1).1]; exact h1, h2⟩
  | siter s pos => exact h
  | dead => exact h

/-- A block that reads as it did. -/
theorem ORel.same {b : Ent} {o : AObj} {w' : World} (h : ORel bs ρ w b o) (hw : Occ ρ o → w'.heap[b.blk]? = w.heap[b.blk]?) : ORel bs ρ w' b o := by
  cases o with
  | cells c ty own g => obtain ⟨vs, tail, h1, ⟨pre, h2, h2'⟩, h3⟩ := h; exact ⟨vs, tail, h1, ⟨pre, by rw [hw trivial]; exact h2, h2'⟩, h3⟩
  | sym n cap row ty =>
    obtain ⟨e1, e2, e3, e4, e5, e6⟩ := h
    refine ⟨e1, e2, e3, e4, e5, fun h0 => ?_⟩
    obtain ⟨e7, h1, h2⟩ := e6 h0
    have hb := hw h0
    refine ⟨e7, ?_, fun i j p hi hp => ⟨?_, (h2 i j p hi hp).2⟩⟩
    · have h3 : w.heap[b.blk]? = some w.heap[b.blk] := Array.getElem?_eq_getElem h1
      rw [← hb] at h3
      exact (Array.getElem?_eq_some_iff.1 h3).1
    · rw [World.cell?_of_block (w := w) hb]; exact (h2 i j p hi hp).1
  | mp ks vs => obtain ⟨us, es, clock, h1, h2, h3, h4, h5⟩ := h; exact ⟨us, es, clock, h1, h2, h3, by rw [hw trivial]; exact h4, h5⟩
  | iter m => obtain ⟨bm, since, h1, h2, h3⟩ := h; exact ⟨bm, since, h1, by rw [hw trivial]; exact h2, h3⟩
  | siter s pos => exact ⟨by rw [hw trivial]; exact h.1, h.2⟩
  | dead => trivial

theorem ORel.lt {b : Ent} {o : AObj} (h : ORel bs ρ w b o) (hl : Occ ρ o) : b.blk < w.heap.size := by
  cases o with
  | cells c ty own g => obtain ⟨vs, tail, h1, ⟨pre, h2, _⟩, h3⟩ := h; exact (Array.getElem?_eq_some_iff.1 h2).1
  | sym n cap row ty =>
    obtain ⟨e1, e2, e3, e4, e5, e6⟩ := h
    exact (e6 hl).2.1
  | mp ks vs => obtain ⟨us, es, clock, h1, h2, h3, h4, h5⟩ := h; exact (Array.getElem?_eq_some_iff.1 h4).1
  | iter m => obtain ⟨bm, since, h1, h2, _⟩ := h; exact (Array.getElem?_eq_some_iff.1 h2).1
  | siter s pos => exact (Array.getElem?_eq_some_iff.1 h.1).1
  | dead => exact hl.elim

section
variable {S : Nat → Prop} {w0 : World} {mem : List AObj}

theorem RelM.fresh (h : RelM bs ρ S w0 mem w) : ¬ S w.heap.size := fun hs => by
  have := h.keep.old _ hs
  have := h.keep.size
  omega

/-- A new block behind the others. 'w'': it has grown by that block, at most one other (dead by now) has turned. -/
theorem RelM.push {w' : World} (h : RelM bs ρ S w0 mem w) {mem' : List AObj} (b : Ent) (c : AObj) (hlen : mem'.length = mem.length)
    (hmem : ∀ (i : Nat) o, mem'[i]? = some o → mem[i]? = some o ∨ o = .dead)
    (hold : ∀ (i : Nat) o e, mem'[i]? = some o → Occ ρ o → bs[i]? = some e → w'.heap[e.blk]? = w.heap[e.blk]? ∧ e.blk ≠ b.blk)
    (hc : ORel bs ρ w' b c) (hS : ¬ S b.blk) (hk : Keep S w0 w') : RelM (bs ++ [b]) ρ S w0 (mem' ++ [c]) w' := by
  have hl : bs.length = mem'.length := by rw [hlen]; exact h.len
  have get : ∀ {i : Nat} {o}, (mem' ++ [c])[i]? = some o → (mem'[i]? = some o ∧ (bs ++ [b])[i]? = bs[i]?) ∨ (i = mem'.length ∧ o = c ∧ (bs ++ [b])[i]? = some b) := fun {i o} ho => by
    by_cases hi : i < mem'.length
    · rw [List.getElem?_append_left hi] at ho
      exact .inl ⟨ho, List.getElem?_append_left (by omega)⟩
    · rw [List.getElem?_append_right (by omega)] at ho
      have hi' : i = mem'.length := by
        have := (List.getElem?_eq_some_iff.1 ho).1
        simp at this
        omega
      subst hi'
      simp at ho
      refine .inr ⟨rfl, ho.symm, ?_⟩
      rw [← hl, List.getElem?_append_right (Nat.le_refl _)]
      simp
  refine ⟨by simp [hl], ?_, ?_, ?_, hk⟩
  · intro i o ho
    rcases get ho with ⟨ho, he⟩ | ⟨rfl, rfl, he⟩
    · rw [he]
      rcases hmem i o ho with h1 | rfl
      · obtain ⟨e, he, hr⟩ := h.rel i o h1
        exact ⟨e, he, (hr.same (fun hlv => (hold i o e ho hlv he).1)).mono _⟩
      · have hi : i < bs.length := by rw [hl]; exact (List.getElem?_eq_some_iff.1 ho).1
        exact ⟨bs[i], by simp [hi], trivial⟩
    · exact ⟨b, he, hc.mono _⟩
  · intro i o e ho hm he
    rcases get ho with ⟨ho, he'⟩ | ⟨rfl, rfl, he'⟩
    · rw [he'] at he
      rcases hmem i o ho with h1 | rfl
      · exact h.own i o e h1 hm he
      · cases hm
    · rw [he'] at he; cases he; exact hS
  · intro i j o o' e e' hij ho ho' hm hlv he he'
    have mine_live : Occ ρ o := Occ.mine hm
    rcases get ho with ⟨po, hb⟩ | ⟨rfl, rfl, hb⟩ <;> rcases get ho' with ⟨po', hb'⟩ | ⟨rfl, rfl, hb'⟩
    · rw [hb] at he; rw [hb'] at he'
      rcases hmem i o po with h1 | rfl
      · rcases hmem j o' po' with h2 | rfl
        · exact h.apart i j o o' e e' hij h1 h2 hm hlv he he'
        · exact hlv.elim
      · cases hm
    · rw [hb] at he; rw [hb'] at he'; cases he'
      exact (hold i o e po mine_live he).2
    · rw [hb] at he; rw [hb'] at he'; cases he
      exact fun h0 => (hold j o' e' po' hlv he').2 h0.symm
    · exact absurd rfl hij

theorem Keep.alloc {w' : World} (h : Keep S w0 w) (o : Obj) : Keep S w0 (w.alloc o) :=
  ⟨h.os, h.tape, h.output, by have := h.size; simp; omega, fun b hb => by
    rw [heap_alloc_old w o b (by have := h.old b hb; have := h.size; omega)]; exact h.block b hb, h.old⟩

theorem RelM.alloc (h : RelM bs ρ S w0 mem w) {c : List AV} {vs : List Value} (ty : TypeId) (g : Option Nat) (cap : Nat) (hc : dvl bs ρ c = some vs)
    (hg : ∀ s, g = some s → vs.length = cap * s ∧ cap ≤ maxLen) :
    RelM (bs ++ [⟨w.heap.size, cap, 0, none, 0⟩]) ρ S w0 (mem ++ [.cells c ty true g]) (w.alloc (.cells vs.toArray ty)) := by
  refine h.push ⟨w.heap.size, cap, 0, none, 0⟩ _ rfl (fun i o ho => .inl ho) (fun i o e ho hl he => ?_) ⟨vs, [], hc, ⟨[], ?_, rfl⟩, by simpa using hg⟩ h.fresh (h.keep.alloc (w' := w) _)
  · obtain ⟨e', he', hr⟩ := h.rel i o ho
    rw [he] at he'; cases he'
    have := hr.lt hl
    exact ⟨heap_alloc_old w _ _ this, by show e.blk ≠ w.heap.size; omega⟩
  · rw [List.append_nil, List.nil_append]; exact heap_alloc_new w _

theorem Keep.setRow (h : Keep S w0 w) (g : Nat) (cs : Array Value) (hg : ¬ S g) : Keep S w0 (w.setRow g cs) :=
  ⟨h.os, h.tape, h.output, by have := h.size; simp [World.setRow]; omega, fun b hb => by
    rw [setRow_other w g b cs (fun e => hg (e ▸ hb))]; exact h.block b hb, h.old⟩

theorem one_sound {a : AV} {v : Value} (h : dv bs ρ a = some v) (h1 : a.one = true) : v.oneCell' = true := by
  cases a <;> simp only [AV.one] at h1 <;> first | (cases h1; done) | (obtain ⟨rfl, _⟩ := dv_int h; rfl) | (obtain ⟨rfl, _⟩ := dv_bstr h; rfl) | skip
  all_goals first | (obtain ⟨b, _, _, rfl⟩ := dv_row h; rfl) | skip
  all_goals simp only [dv, Option.map_eq_some_iff, Option.some.injEq] at h
  all_goals first
    | (subst h; obtain ⟨_, _, hxv⟩ := xsV_slice _ _ _ _; rw [hxv]; rfl)
    | (subst h; rfl)
    | (obtain ⟨x, _, rfl⟩ := h; rfl)
    | (obtain ⟨x, _, rfl⟩ := h; split <;> rfl)

theorem ones_sound {l : List AV} {vs : List Value} (h : dvl bs ρ l = some vs) (h1 : l.all AV.one = true) : ∀ v ∈ vs, v.oneCell' = true := by
  intro v hv
  obtain ⟨i, hi⟩ := List.mem_iff_getElem?.1 hv
  have hlen := dvl_length h
  have hlt : i < l.length := by have := (List.getElem?_eq_some_iff.1 hi).1; omega
  obtain ⟨u, hu, hd⟩ := dvl_get h (i := i) (a := l[i]) (by simp [hlt])
  rw [hi] at hu; cases hu
  exact one_sound hd (List.all_eq_true.1 h1 _ (List.getElem_mem hlt))

end
end Go.SX

/- Symbolic execution of the model's code: maps, walks over maps and texts. -/
namespace Go.SX
set_option linter.unusedSimpArgs false
set_option linter.unusedVariables false
variable {bs : List Ent} {ρ : Env} {P : Program} {w : World} {S : Nat → Prop} {w0 : World} {mem : List AObj}

/-! ### maps and walks -/
section maps
/-- What a map's entries have at a key, and where. -/
def findE (q : MK) : List ((MK × Value) × Nat) → Nat → Option (Nat × Value)
  | p :: l, i => if beqK q p.1.1 = true then some (i, p.1.2) else findE q l (i + 1)
  | [], _ => none
theorem findE_some {q : MK} : ∀ {l : List ((MK × Value) × Nat)} {i j : Nat} {u : Value}, findE q l i = some (j, u) → ∃ m b, j = i + m ∧ l[m]? = some ((q, u), b)
  | [], i, j, u, h => by simp [findE] at h
  | ((k, x), b) :: l, i, j, u, h => by
    simp only [findE] at h
    split at h
    · rename_i hk; cases h; exact ⟨0, b, rfl, by rw [beqK_iff.1 hk]; rfl⟩
    · obtain ⟨m, b', h1, h2⟩ := findE_some h
      exact ⟨m + 1, b', by omega, by simpa using h2⟩
theorem findE_none {q : MK} : ∀ {l : List ((MK × Value) × Nat)} {i : Nat}, findE q l i = none → ∀ p ∈ l, p.1.1 ≠ q
  | [], _, _ => by simp
  | ((k, x), b) :: l, i, h => by
    simp only [findE] at h
    split at h
    · cases h
    · rename_i hne
      intro p hp
      rcases List.mem_cons.1 hp with rfl | hp
      · exact fun e => hne (beqK_iff.2 e.symm)
      · exact findE_none h p hp
theorem keyOf_sound {a : AV} {q : MK} {v : Value} (h : keyOf a = some q) (hd : dv bs ρ a = some v) : v = q.val ∧ q.ok = true := by
  have key : ∀ (l : List AV) (ps : List (IntKind × Int)) (vs : List Value), intsOf l = some ps → dvl bs ρ l = some vs → vs = ps.map (fun p => Value.int p.1 p.2) ∧ (ps.all fun p => inR p.1 p.2) = true := by
    intro l
    induction l with
    | nil => intro ps vs h hd; cases h; cases hd; exact ⟨rfl, rfl⟩
    | cons a l ih =>
      intro ps vs h hd
      unfold intsOf at h
      split at h
      · rename_i heq; cases heq
      · rename_i k n r heq
        cases heq
        split at h
        · rename_i hr
          simp only [Option.map_eq_some_iff] at h
          obtain ⟨ps', hps, rfl⟩ := h
          simp only [dvl, Option.bind_eq_some_iff, Option.map_eq_some_iff] at hd
          obtain ⟨u, hu, us, hus, rfl⟩ := hd
          obtain ⟨rfl, _⟩ := dv_int hu
          obtain ⟨e1, e2⟩ := ih ps' us hps hus
          exact ⟨by rw [e1]; rfl, by simp [hr, e2]⟩
        · cases h
      · cases h
  unfold keyOf at h
  split at h
  · cases h; cases hd; exact ⟨rfl, rfl⟩
  · split at h
    · rename_i hr; cases h; obtain ⟨rfl, _⟩ := dv_int hd; exact ⟨rfl, hr⟩
    · cases h
  · rename_i l
    simp only [Option.map_eq_some_iff] at h
    obtain ⟨ps, hps, rfl⟩ := h
    simp only [dv, Option.map_eq_some_iff] at hd
    obtain ⟨vs, hvs, rfl⟩ := hd
    obtain ⟨e1, e2⟩ := key _ _ _ hps (dvl_members l hvs)
    exact ⟨by rw [e1]; rfl, e2⟩
  · cases h
theorem nodup_get {ks : List MK} (h : ks.Nodup) {i j : Nat} {s : MK} (hi : ks[i]? = some s) (hj : ks[j]? = some s) : i = j := by
  obtain ⟨h1, h2⟩ := List.getElem?_eq_some_iff.1 hi
  obtain ⟨h3, h4⟩ := List.getElem?_eq_some_iff.1 hj
  rcases Nat.lt_trichotomy i j with hij | hij | hij
  · exact absurd (h2.trans h4.symm) (List.pairwise_iff_getElem.1 h i j h1 h3 hij)
  · exact hij
  · exact absurd (h4.trans h2.symm) (List.pairwise_iff_getElem.1 h j i h3 h1 hij)
theorem findK_dv {q : MK} : ∀ {ks : List MK} {vs : List AV} {us : List Value} {i : Nat}, dvl bs ρ vs = some us → ks.length = vs.length →
    (∀ j v, findK q ks vs i = some (j, v) → ∃ u, findK q ks us i = some (j, u) ∧ dv bs ρ v = some u) ∧ (findK q ks vs i = none → findK q ks us i = none)
  | [], vs, us, i, hd, hl => by
    have : vs = [] := List.eq_nil_of_length_eq_zero (by simpa using hl.symm)
    subst this
    cases hd
    exact ⟨fun j v h => by simp [findK] at h, fun _ => rfl⟩
  | k :: ks, [], us, i, hd, hl => by simp at hl
  | k :: ks, v :: vs, us, i, hd, hl => by
    simp only [dvl, Option.bind_eq_some_iff, Option.map_eq_some_iff] at hd
    obtain ⟨u, hu, us', hus, rfl⟩ := hd
    simp only [findK]
    split
    · exact ⟨fun j w h => by cases h; exact ⟨u, rfl, hu⟩, fun h => by cases h⟩
    · exact findK_dv hus (by simpa using hl)
theorem findK_spec {q : MK} {α : Type} : ∀ {ks : List MK} {us : List α} {i j : Nat} {u : α}, findK q ks us i = some (j, u) → ∃ m, j = i + m ∧ ks[m]? = some q ∧ us[m]? = some u
  | [], us, i, j, u, h => by simp [findK] at h
  | k :: ks, [], i, j, u, h => by simp [findK] at h
  | k :: ks, x :: us, i, j, u, h => by
    simp only [findK] at h
    split at h
    · rename_i hk; cases h; exact ⟨0, rfl, by rw [beqK_iff.1 hk]; rfl, rfl⟩
    · obtain ⟨m, h1, h2, h3⟩ := findK_spec h
      exact ⟨m + 1, by omega, by simpa using h2, by simpa using h3⟩
theorem findK_none {q : MK} {α : Type} : ∀ {ks : List MK} {us : List α} {i : Nat}, ks.length = us.length → findK q ks us i = none → q ∉ ks
  | [], _, _, _, _ => by simp
  | k :: ks, [], _, h, _ => by simp at h
  | k :: ks, x :: us, i, h, hf => by
    simp only [findK] at hf
    split at hf
    · cases hf
    · rename_i hne
      simp only [List.mem_cons, not_or]
      exact ⟨fun e => hne (beqK_iff.2 e), findK_none (by simpa using h) hf⟩
theorem key_now {kt : TypeId} {d : TypeDesc} (hu : P.underlying kt = some d) {q k : MK} (hq : keyT P kt q = true) (hk : keyT P kt k = true) (hs : ∀ l, q ≠ .a l) : Instr.sameNow d q.val k.val = some (beqK q k) := by
  unfold keyT at hq hk
  rw [hu] at hq hk
  cases q with
  | a l => exact absurd rfl (hs l)
  | s a =>
    cases d <;> simp at hq
    cases k <;> simp at hk
    rename_i b
    simp only [MK.val, Instr.sameNow, beqK]
    congr 1
    rw [beq_toListBytes, toList_beqT]
  | i k1 n1 =>
    cases d <;> simp at hq
    rename_i k0
    cases k <;> simp at hk
    rename_i k2 n2
    have e1 : k1 = k0 := hq
    have e2 : k2 = k0 := hk
    subst e1 e2
    simp [MK.val, Instr.sameNow, beqK, beq_iff_eq]
    rw [Bool.eq_iff_iff]; simp
theorem run_find {kt : TypeId} {q : MK} {l : List ((MK × Value) × Nat)} (h1 : keyT P kt q = true) (h2 : ∀ p ∈ l, keyT P kt p.1.1 = true ∧ cmpK P kt q p.1.1 = true ∧ p.1.1.ok = true) (hq : q.ok = true) (w : World) :
    (Instr.findKey kt q.val (l.map mkE)).run P w = .ok (findE q l 0) w := by
  have h1' := h1
  unfold keyT at h1'
  obtain ⟨d, hu⟩ : ∃ d, P.underlying kt = some d := by
    cases hu : P.underlying kt with
    | none => rw [hu] at h1'; cases q <;> simp at h1'
    | some d => exact ⟨d, rfl⟩
  by_cases hs : ∀ l, q ≠ .a l
  · have now : ∀ (l : List ((MK × Value) × Nat)) (i : Nat), (∀ p ∈ l, keyT P kt p.1.1 = true) → Instr.findNow d q.val (l.map mkE) i = some (findE q l i) := by
      intro l
      induction l with
      | nil => intro i _; simp [Instr.findNow, findE]
      | cons p l ih =>
        intro i hk
        simp only [List.map_cons, Instr.findNow, mkE, key_now hu h1 (hk p (by simp)) hs, findE]
        cases beqK q p.1.1
        · simpa using ih (i + 1) (fun k hk' => hk k (by simp [hk']))
        · simp
    exact Go.MapKept.run_findKey hu (now l 0 fun k hk => (h2 k hk).1)
  · have ⟨ql, hl2⟩ : ∃ ql, q = .a ql := by
      cases q with
      | s a => exact absurd (fun l => by simp) hs
      | i k n => exact absurd (fun l => by simp) hs
      | a l => exact ⟨l, rfl⟩
    subst hl2
    rw [hu] at h1'
    cases d <;> simp at h1'
    rename_i fs
    cases l with
    | nil => simp [Instr.findKey, run_underlying hu, Instr.findNow, findE]
    | cons p0 l0 =>
      have hnow : Instr.findNow (.struct fs) (MK.a ql).val ((p0 :: l0).map mkE) 0 = none := by
        simp [Instr.findNow, Instr.sameNow, MK.val, mkE]
      have ask : ∀ (l : List ((MK × Value) × Nat)) (i : Nat), (∀ p ∈ l, cmpK P kt (.a ql) p.1.1 = true ∧ p.1.1.ok = true) → (Instr.findAsking kt (MK.a ql).val (l.map mkE) i).run P w = .ok (findE (.a ql) l i) w := by
        intro l
        induction l with
        | nil => intro i _; simp [Instr.findAsking, findE]
        | cons p l ih =>
          intro i hk
          obtain ⟨hc, hko⟩ := hk p (by simp)
          simp only [cmpK] at hc
          split at hc
          · rename_i m hm
            obtain ⟨_, he, _⟩ := eqA_sound (bs := []) (ρ := ⟨fun _ => 0, fun _ _ => 0⟩) (dv_key hq) (dv_key hko) hm
            have he := he w
            have hm2 : m = ofB (beqK (.a ql) p.1.1) := of_decide_eq_true hc
            rw [hm2, evB_lit_ofB] at he
            simp only [List.map_cons, mkE, Instr.findAsking, Sem.run_bind, he, Result.andThen_ok, findE]
            cases beqK (.a ql) p.1.1
            · simpa [mkE] using ih (i + 1) (fun k hk' => hk k (by simp [hk']))
            · simp
          · cases hc
      simp only [Instr.findKey, Sem.run_bind, run_underlying hu, Result.andThen_ok, hnow]
      exact ask _ _ fun k hk => ⟨(h2 k hk).2.1, (h2 k hk).2.2⟩
/-- A map's entries, found by a key: as told, in whatever order they came. -/
theorem mapIs_find {kt : TypeId} {q : MK} {ks : List MK} {us : List Value} {l : List ((MK × Value) × Nat)} (hks : keysT P kt q ks = true) (hq : q.ok = true) (hok : ks.all MK.ok = true) (hnd : ks.Nodup) (hl : ks.length = us.length)
    (hp : (l.map (·.1)).Perm (ks.zip us)) (w : World) :
    (∀ i u, findK q ks us 0 = some (i, u) → ∃ j b, l[j]? = some ((q, u), b) ∧ (Instr.findKey kt q.val (l.map mkE)).run P w = .ok (some (j, u)) w) ∧
    (findK q ks us 0 = none → (Instr.findKey kt q.val (l.map mkE)).run P w = .ok none w) := by
  simp only [keysT, Bool.and_eq_true, List.all_eq_true] at hks hok
  have hin : ∀ p ∈ l, p.1.1 ∈ ks := fun p hpl => by
    have : p.1 ∈ ks.zip us := hp.subset (List.mem_map.2 ⟨p, hpl, rfl⟩)
    exact (List.of_mem_zip this).1
  have hrun := run_find (P := P) (l := l) hks.1 (fun p hpl => ⟨(hks.2 _ (hin p hpl)).1, (hks.2 _ (hin p hpl)).2, hok _ (hin p hpl)⟩) hq w
  constructor
  · intro i u hf
    obtain ⟨m, hm, hkm, hum⟩ := findK_spec hf
    have hz : (q, u) ∈ ks.zip us := List.mem_of_getElem? (List.getElem?_zip_eq_some.2 ⟨hkm, hum⟩)
    obtain ⟨p, hpl, hpe⟩ := List.mem_map.1 (hp.symm.subset hz)
    cases he : findE q l 0 with
    | none => exact absurd (by rw [hpe]) (findE_none he p hpl)
    | some ju =>
      obtain ⟨j, u'⟩ := ju
      obtain ⟨m', b, hj, hlm⟩ := findE_some he
      rw [Nat.zero_add] at hj
      subst hj
      have hz' : (q, u') ∈ ks.zip us := hp.subset (List.mem_map.2 ⟨_, List.mem_of_getElem? hlm, rfl⟩)
      obtain ⟨n, hn⟩ := List.mem_iff_getElem?.1 hz'
      obtain ⟨hn1, hn2⟩ := List.getElem?_zip_eq_some.1 hn
      obtain rfl := nodup_get hnd hkm hn1
      rw [hum] at hn2
      cases hn2
      exact ⟨_, b, hlm, by rw [hrun, he]⟩
  · intro hf
    rw [hrun]
    cases he : findE q l 0 with
    | none => rfl
    | some ju =>
      obtain ⟨j, u'⟩ := ju
      obtain ⟨m', b, _, hlm⟩ := findE_some he
      exact absurd (hin _ (List.mem_of_getElem? hlm)) (findK_none hl hf)
theorem run_check {kt : TypeId} {q : MK} (h : keyT P kt q = true) (hq : q.ok = true) (em : Bool) (w : World) : (Instr.checkKey em 10000 kt q.val).run P w = .ok () w := by
  unfold keyT at h
  cases hu : P.underlying kt with
  | none => rw [hu] at h; cases q <;> simp at h
  | some d =>
    rw [hu] at h
    cases q with
    | s a => cases d <;> simp at h; exact Go.MapKept.run_checkKey (P := P) (w := w) (k := .string a) (n := 9999) hu trivial em
    | i k n => cases d <;> simp at h; exact Go.MapKept.run_checkKey (P := P) (w := w) (k := .int k n) (n := 9999) hu h em
    | a l =>
      cases d <;> simp at h
      rename_i fs
      have hcs := dvl_key (bs := []) (ρ := ⟨fun _ => 0, fun _ _ => 0⟩) l hq
      have gen : ∀ n, (Instr.checkKey em (n + 1 + 1) kt (.agg (l.map fun p => Value.int p.1 p.2).toArray)).run P w = .ok () w := by
       intro n
       unfold Instr.checkKey
       simp only [Sem.run_bind, run_underlying hu, Result.andThen_ok]
       rw [← Array.forIn_toList]
       have hall : ∀ f ∈ fs.toList, (match P.underlying f.type with
           | some (.int _) => true
           | _ => false) = true ∧ (partA P f.type (l.map fun p => AV.int p.1 (.lit p.2)) f.offset).isSome = true := fun f hf => by
         have hf' : f ∈ fs := by simpa using hf
         obtain ⟨i, hi, rfl⟩ := Array.mem_iff_getElem.1 hf'
         exact h i hi
       generalize fs.toList = gs at hall
       induction gs with
       | nil => simp
       | cons f gs ih =>
         obtain ⟨h1, h2⟩ := hall f (by simp)
         have ih := ih fun g hg => hall g (by simp [hg])
         simp only [List.forIn_cons, Sem.run_bind, Sem.run_ite]
         split
         · obtain ⟨a, ha⟩ := Option.isSome_iff_exists.1 h2
           obtain ⟨v, _, hpr⟩ := partA_sound (P := P) (w := w) hcs ha
           have hck : (Instr.checkKey em (n + 1) f.type v).run P w = .ok () w := by
             split at h1
             · rename_i kk hfu
               simp only [Instr.checkKey, Sem.run_bind, run_underlying hfu, Result.andThen_ok]
               cases v <;> rfl
             · cases h1
           simp only [hpr, Result.andThen_ok, hck, Sem.run_pure]
           exact ih
         · simp only [Sem.run_pure, Result.andThen_ok]
           exact ih
      exact gen 9998
theorem same_key (q : MK) : Instr.sameBits 10000 q.val q.val = true := by
  cases q with
  | s a => show (a == a) = true; rw [beq_toListBytes]; simp
  | i k n => show (k == k && n == n) = true; simp
  | a l =>
    show (Instr.sameBits (9999 + 1) (Value.agg _) (Value.agg _)) = true
    simp only [Instr.sameBits, beq_self_eq_true, Bool.true_and, List.all_eq_true]
    intro p hp
    have h1 := List.of_mem_zip hp
    obtain ⟨i, hi⟩ := List.mem_iff_getElem?.1 hp
    obtain ⟨h2, h3⟩ := List.getElem?_zip_eq_some.1 hi
    rw [h2] at h3
    have h4 : p.1 = p.2 := Option.some.inj h3
    obtain ⟨x, y⟩ := p
    simp only at h4
    subst h4
    have h5 := h1.1
    simp only [List.mem_map] at h5
    obtain ⟨z, _, rfl⟩ := h5
    show Instr.sameBits (9998 + 1) (.int z.1 z.2) (.int z.1 z.2) = true
    simp [Instr.sameBits]
/-- An object that is written anew. -/
theorem RelM.setO (h : RelM bs ρ S w0 mem w) {id : Nat} {o o' : AObj} {b : Ent} {ob obj : Obj} (hid : mem[id]? = some o) (hm : o.mine = true) (hb : bs[id]? = some b) (hheap : w.heap[b.blk]? = some ob)
    (hr' : ORel bs ρ { w with heap := w.heap.setIfInBounds b.blk obj } b o') : RelM bs ρ S w0 (mem.set id o') { w with heap := w.heap.setIfInBounds b.blk obj } := by
  have hlt : id < mem.length := (List.getElem?_eq_some_iff.1 hid).1
  have hnS := h.own id _ b hid hm hb
  obtain ⟨hs1, hs2⟩ := Go.MapKept.heap_set (o' := obj) hheap
  have get : ∀ {i : Nat} {p}, (mem.set id o')[i]? = some p → (i = id ∧ p = o') ∨ (i ≠ id ∧ mem[i]? = some p) := fun {i p} ho => by
    rw [List.getElem?_set] at ho
    split at ho
    · rename_i he; subst he; simp [hlt] at ho; exact .inl ⟨rfl, ho.symm⟩
    · rename_i he; exact .inr ⟨fun e => he e.symm, ho⟩
  refine ⟨by simp [h.len], fun i p ho => ?_, fun i p b1 ho hmi hb1 => ?_, fun i j p p' b1 b2 hij ho ho' hmi hlv hb1 hb2 => ?_, ⟨h.keep.os, h.keep.tape, h.keep.output, by simpa using h.keep.size, fun x hx => ?_, h.keep.old⟩⟩
  · rcases get ho with ⟨rfl, rfl⟩ | ⟨hi, ho⟩
    · exact ⟨b, hb, hr'⟩
    · obtain ⟨e1, he1, hr⟩ := h.rel i p ho
      refine ⟨e1, he1, hr.same fun hlv => hs2 _ ?_⟩
      exact fun e0 => h.apart id i _ p b e1 (Ne.symm hi) hid ho hm hlv hb he1 e0.symm
  · rcases get ho with ⟨rfl, rfl⟩ | ⟨hi, ho⟩
    · exact h.own _ _ b1 hid hm hb1
    · exact h.own i p b1 ho hmi hb1
  · rcases get ho with ⟨rfl, rfl⟩ | ⟨hi, po⟩ <;> rcases get ho' with ⟨rfl, rfl⟩ | ⟨hj, po'⟩
    · exact absurd rfl hij
    · exact h.apart _ j _ p' b1 b2 hij hid po' hm hlv hb1 hb2
    · exact h.apart i _ p _ b1 b2 hij po hid hmi (Occ.mine hm) hb1 hb2
    · exact h.apart i j p p' b1 b2 hij po po' hmi hlv hb1 hb2
  · show (w.heap.setIfInBounds b.blk _)[x]? = _
    rw [hs2 x (fun e1 => hnS (e1 ▸ hx))]
    exact h.keep.block x hx
def isRowO : Obj → Bool
  | .cells .. => true
  | _ => false
theorem run_getO {r : Nat} {o : Obj} (hb : w.heap[r]? = some o) (hc : isRowO o = false) : (getObj r).run P w = .ok o w := by cases o <;> first | (cases hc; done) | simp [getObj, Sem.run, hb]
theorem run_setO {r : Nat} {o : Obj} (o' : Obj) (hb : w.heap[r]? = some o) (hc : isRowO o = false) : (setObj r o').run P w = .ok () { w with heap := w.heap.setIfInBounds r o' } := by cases o <;> first | (cases hc; done) | simp [setObj, Sem.run, hb]
theorem RelM.newO (h : RelM bs ρ S w0 mem w) (o : AObj) (obj : Obj) (hr : ORel bs ρ (w.alloc obj) ⟨w.heap.size, 0, 0, none, 0⟩ o) : RelM (bs ++ [⟨w.heap.size, 0, 0, none, 0⟩]) ρ S w0 (mem ++ [o]) (w.alloc obj) :=
  h.push ⟨w.heap.size, 0, 0, none, 0⟩ _ rfl (fun i o ho => .inl ho) (fun i o e0 ho hl he => by
    obtain ⟨e', he', hr⟩ := h.rel i o ho
    rw [he] at he'; cases he'
    have := hr.lt hl
    exact ⟨heap_alloc_old w _ _ this, by show e0.blk ≠ w.heap.size; omega⟩) hr h.fresh (h.keep.alloc (w' := w) _)
theorem newPtr (h : RelM bs ρ S w0 mem w) : dv (bs ++ [(⟨w.heap.size, 0, 0, none, 0⟩ : Ent)]) ρ (.ptr mem.length 0) = some (.pointer (some ⟨w.heap.size, 0, none⟩)) := by
  simp only [dv]
  rw [← h.len, List.getElem?_append_right (Nat.le_refl _)]
  simp
theorem dvl_set {l : List AV} {vs : List Value} (h : dvl bs ρ l = some vs) {i : Nat} {a : AV} {v : Value} (ha : dv bs ρ a = some v) : dvl bs ρ (l.set i a) = some (vs.set i v) := by
  induction l generalizing vs i with
  | nil => cases h; rfl
  | cons b l ih =>
    simp only [dvl, Option.bind_eq_some_iff, Option.map_eq_some_iff] at h
    obtain ⟨x, hx, xs, hxs, rfl⟩ := h
    cases i with
    | zero => simp [dvl, ha, hxs]
    | succ i => simp [dvl, hx, ih hxs]
theorem perm_set {α : Type} {b : α} : ∀ {l m : List α} {a : α} {i j : Nat}, l.Perm m → l[i]? = some a → m[j]? = some a → (l.set i b).Perm (m.set j b) := by
  have key : ∀ (l : List α) (i : Nat) (a : α), l[i]? = some a → l.Perm (a :: l.eraseIdx i) ∧ (l.set i b).Perm (b :: l.eraseIdx i) := by
    intro l
    induction l with
    | nil => intro i a h; simp at h
    | cons x l ih =>
      intro i a h
      cases i with
      | zero => simp at h; subst h; exact ⟨List.Perm.refl _, List.Perm.refl _⟩
      | succ i =>
        obtain ⟨h1, h2⟩ := ih i a (by simpa using h)
        simp only [List.set_cons_succ, List.eraseIdx_cons_succ]
        exact ⟨(h1.cons x).trans (List.Perm.swap _ _ _), (h2.cons x).trans (List.Perm.swap _ _ _)⟩
  intro l m a i j hp hi hj
  obtain ⟨h1, h2⟩ := key l i a hi
  obtain ⟨h3, h4⟩ := key m j a hj
  have h5 : (l.eraseIdx i).Perm (m.eraseIdx j) := (List.perm_cons a).1 (h1.symm.trans (hp.trans h3))
  exact h2.trans ((h5.cons b).trans h4.symm)
theorem zip_set {ks : List MK} {us : List Value} {i : Nat} {q : MK} {x : Value} (hk : ks[i]? = some q) : ks.zip (us.set i x) = (ks.zip us).set i (q, x) := by
  apply List.ext_getElem?
  intro n
  by_cases hn : i = n
  · subst hn
    by_cases hu : i < us.length
    · have h1 : (ks.zip (us.set i x))[i]? = some (q, x) := List.getElem?_zip_eq_some.2 ⟨hk, by simp [hu]⟩
      have hi : i < (ks.zip us).length := by
        have := (List.getElem?_eq_some_iff.1 hk).1
        simp
        omega
      rw [h1, List.getElem?_set_self hi]
    · rw [List.getElem?_eq_none (by simp; omega), List.getElem?_eq_none (by simp; omega)]
  · rw [List.getElem?_set_ne hn]
    simp only [List.zip, List.getElem?_zipWith, List.getElem?_set_ne hn]
theorem insK_spec {α : Type} (q : MK) (v : α) : ∀ (ks : List MK) (vs : List α), ks.length = vs.length → (insK q v ks vs).1.Perm (q :: ks) ∧ ((insK q v ks vs).1.zip (insK q v ks vs).2).Perm ((q, v) :: ks.zip vs) ∧ (insK q v ks vs).1.length = (insK q v ks vs).2.length
  | [], [], _ => ⟨List.Perm.refl _, List.Perm.refl _, rfl⟩
  | [], _ :: _, h => by simp at h
  | _ :: _, [], h => by simp at h
  | k :: ks, x :: vs, h => by
    obtain ⟨h1, h2, h3⟩ := insK_spec q v ks vs (by simpa using h)
    simp only [insK]
    split
    · exact ⟨List.Perm.refl _, List.Perm.refl _, by simpa using h⟩
    · exact ⟨(h1.cons k).trans (List.Perm.swap _ _ _), by simpa using (h2.cons (k, x)).trans (List.Perm.swap _ _ _), by simpa using h3⟩
theorem insK_dv {q : MK} {v : AV} {x : Value} (hv : dv bs ρ v = some x) : ∀ (ks : List MK) (vs : List AV) (us : List Value), ks.length = vs.length → dvl bs ρ vs = some us → dvl bs ρ (insK q v ks vs).2 = some (insK q x ks us).2 ∧ (insK q v ks vs).1 = (insK q x ks us).1
  | [], [], us, _, hd => by cases hd; exact ⟨by simp [insK, dvl, hv], rfl⟩
  | [], _ :: _, _, h, _ => by simp at h
  | _ :: _, [], _, h, _ => by simp at h
  | k :: ks, a :: vs, us, h, hd => by
    simp only [dvl, Option.bind_eq_some_iff, Option.map_eq_some_iff] at hd
    obtain ⟨u, hu, us', hus, rfl⟩ := hd
    obtain ⟨h1, h2⟩ := insK_dv (q := q) hv ks vs us' (by simpa using h) hus
    simp only [insK]
    split
    · exact ⟨by simp [dvl, hv, hu, hus], rfl⟩
    · exact ⟨by simp [dvl, hu, h1], by rw [h2]⟩
end maps
end Go.SX

/- Symbolic execution of the model's code: maps, walks over maps and texts. -/
namespace Go.SX
set_option linter.unusedSimpArgs false
set_option linter.unusedVariables false
variable {bs : List Ent} {ρ : Env} {P : Program} {w : World} {S : Nat → Prop} {w0 : World} {mem : List AObj}

theorem mapUpA_sound (h : RelM bs ρ S w0 mem w) {t : TypeId} {m k x : Option AV} {vm vk vx : Value} (hm : ∀ a, m = some a → dv bs ρ a = some vm) (hk : ∀ a, k = some a → dv bs ρ a = some vk) (hx : ∀ a, x = some a → dv bs ρ a = some vx)
    {r : AV} {mem' : List AObj} (he : mapUpA P mem t m k x = some (r, mem')) : r = .tuple .nil ∧ ∃ w', RelM bs ρ S w0 mem' w' ∧ (Instr.mapUpdate t vm vk vx).run P w = .ok () w' := by
  unfold mapUpA at he
  split at he
  · rename_i kt et id q v ht hkk
    simp only [Option.bind_eq_some_iff] at hkk
    obtain ⟨ka, hka, hkey⟩ := hkk
    obtain ⟨rfl, hqok⟩ := keyOf_sound hkey (hk _ hka)
    split at he
    · rename_i ks vs hid
      split at he
      · rename_i hks
        obtain ⟨b, hb, us, es, clock, hus, ⟨hnd, hok⟩, hl, hheap, l, hes, hperm, hborn, hclk⟩ := h.rel id _ hid
        have hm' := hm _ rfl
        simp only [dv, hb, Option.map_some, Option.some.injEq] at hm'
        have hv' := hx _ rfl
        have hvl := dvl_length hus
        have hfind := mapIs_find (P := P) hks hqok hok hnd hl hperm w
        rw [← hes] at hfind
        have hkt : keyT P kt q = true := by simp only [keysT, Bool.and_eq_true] at hks; exact hks.1
        have hck := fun em => run_check hkt hqok em w
        have hget := Go.MapKept.run_getObj_map (P := P) hheap
        have fd := findK_dv (q := q) (ks := ks) (i := 0) hus (by omega)
        split at he
        · rename_i i v0 hf
          cases he
          obtain ⟨u0, hfu, _⟩ := fd.1 _ _ hf
          obtain ⟨i', hi', hki, hui⟩ := findK_spec hfu
          rw [Nat.zero_add] at hi'
          subst hi'
          obtain ⟨j, bo, hlj, hrun⟩ := hfind.1 _ _ hfu
          have hei : es[j]? = some ⟨q.val, u0, bo⟩ := by
            rw [← Array.getElem?_toList, hes, List.getElem?_map, hlj]
            rfl
          refine ⟨rfl, _, h.setO (obj := .map (es.modify j fun e => { e with key := q.val, val := vx }) clock) hid rfl hb hheap ⟨us.set i vx, es.modify j fun e => { e with key := q.val, val := vx }, clock, dvl_set hus hv', ⟨hnd, hok⟩, by simp [hl], ?_, l.set j ((q, vx), bo), ?_, ?_, ?_, ?_⟩, ?_⟩
          · exact (Go.MapKept.heap_set hheap).1
          · apply List.ext_getElem?
            intro p
            rw [Array.getElem?_toList, Array.getElem?_modify, List.getElem?_map]
            by_cases hp : j = p
            · subst hp
              rw [if_pos rfl, hei, List.getElem?_set_self (List.getElem?_eq_some_iff.1 hlj).1]
              rfl
            · rw [if_neg hp, ← Array.getElem?_toList, hes, List.getElem?_map, List.getElem?_set_ne hp]
          · rw [List.map_set, zip_set hki]
            exact perm_set hperm (by rw [List.getElem?_map, hlj]; rfl) (List.getElem?_zip_eq_some.2 ⟨hki, hui⟩)
          · rw [List.map_set]
            have : (l.map (·.2)).set j bo = l.map (·.2) := by
              apply List.ext_getElem?
              intro p
              by_cases hp : j = p
              · subst hp
                rw [List.getElem?_set_self (by simpa using (List.getElem?_eq_some_iff.1 hlj).1), List.getElem?_map, hlj]
                rfl
              · rw [List.getElem?_set_ne hp]
            rw [this]
            exact hborn
          · intro p hp
            rcases List.mem_or_eq_of_mem_set hp with h1 | rfl
            · exact hclk p h1
            · exact hclk ((q, u0), bo) (List.mem_of_getElem? hlj)
          · have hkeep : (Instr.keyThatStays q.val q.val).run P w = .ok q.val w := by
              simp [Instr.keyThatStays, same_key]
            rw [← hm']
            simp [Instr.mapUpdate, run_underlying ht, hget, hck, hrun, hei, hkeep, Go.MapKept.run_setObj_map _ hheap]
        · rename_i hf
          split at he
          · rename_i hkv
            cases he
            have hfu := fd.2 hf
            have hno := findK_none (by omega) hf
            have hrun := hfind.2 hfu
            obtain ⟨i1, i2, i3⟩ := insK_spec q vx ks us hl
            obtain ⟨i4, i5⟩ := insK_dv (q := q) hv' ks vs us hkv hus
            rw [i5]
            refine ⟨rfl, _, h.setO (obj := .map (es.push { key := q.val, val := vx, born := clock }) (clock + 1)) hid rfl hb hheap ⟨(insK q vx ks us).2, es.push { key := q.val, val := vx, born := clock }, clock + 1, i4, ⟨?_, ?_⟩, i3, ?_, l ++ [((q, vx), clock)], ?_, ?_, ?_, ?_⟩, ?_⟩
            · rw [i1.nodup_iff]
              exact List.nodup_cons.2 ⟨hno, hnd⟩
            · rw [i1.all_eq]
              simp [hqok, hok]
            · exact (Go.MapKept.heap_set hheap).1
            · rw [Array.toList_push, hes, List.map_append]
              rfl
            · rw [List.map_append]
              exact (List.perm_append_comm.trans (hperm.cons (q, vx))).trans i2.symm
            · rw [List.map_append, List.nodup_append]
              exact ⟨hborn, by simp, fun a ha c hc e => by
                obtain ⟨p, hp, rfl⟩ := List.mem_map.1 ha
                have := hclk p hp
                simp at hc
                omega⟩
            · intro p hp
              rcases List.mem_append.1 hp with h1 | h1
              · have := hclk p h1; omega
              · simp at h1; subst h1; show clock < clock + 1; omega
            · rw [← hm']
              simp [Instr.mapUpdate, run_underlying ht, hget, hck, hrun, Go.MapKept.run_setObj_map _ hheap]
          · cases he
      · cases he
    · cases he
  · cases he
end Go.SX

/- Symbolic execution of the model's code: maps, walks over maps and texts. -/
namespace Go.SX
set_option linter.unusedSimpArgs false
set_option linter.unusedVariables false
variable {bs : List Ent} {ρ : Env} {P : Program} {w : World} {S : Nat → Prop} {w0 : World} {mem : List AObj}

theorem mapA_sound {ev : Operand → Option AV} {e : Operand → Value} (hev : ∀ x a, ev x = some a → dv bs ρ a = some (e x)) (h : RelM bs ρ S w0 mem w)
    {o : Oper} {r : AV} {mem' : List AObj} (he : mapA P mem ev o.op = some (r, mem')) :
    ∃ ex z w', dv (bs ++ ex) ρ r = some z ∧ RelM (bs ++ ex) ρ S w0 mem' w' ∧ ((execOp e o).run P w = .ok (.value z) w' ∨ ((execOp e o).run P w = .ok .skip w' ∧ z = undef)) := by
  have val : ∀ (s : Sem Value) (z : Value) (w' : World), s.run P w = .ok z w' → ((do pure (.value (← s))) : Sem Next).run P w = .ok (.value z) w' := fun s z w' hs => by simp [hs]
  obtain ⟨dst, op, type, pos, after, guard⟩ := o
  simp only at he
  unfold mapA at he
  split at he
  · cases he
    refine ⟨_, _, _, ?_, h.newO (.mp [] []) (.map #[] 0) ⟨[], #[], 0, rfl, ⟨List.nodup_nil, rfl⟩, rfl, heap_alloc_new w _, [], rfl, List.Perm.refl _, List.nodup_nil, by simp⟩, .inl (val _ (.map (some w.heap.size)) _ ?_)⟩
    · simp only [dv]
      rw [← h.len, List.getElem?_append_right (Nat.le_refl _)]
      simp
    · simp [Instr.makeMap, newObj, Sem.run]
  · rename_i t x ix ok
    split at he
    · rename_i kt el id q ht hx hix
      simp only [Option.bind_eq_some_iff] at hix
      obtain ⟨ka, hka, hkey⟩ := hix
      obtain ⟨hs', hqok⟩ := keyOf_sound hkey (hev _ _ hka)
      split at he
      · rename_i ks vs hid
        split at he
        · rename_i hks
          obtain ⟨b, hb, us, es, clock, hus, ⟨hnd, hok⟩, hl, hheap, l, hes, hperm, hborn, hclk⟩ := h.rel id _ hid
          have hx' := hev _ _ hx
          simp only [dv, hb, Option.map_some, Option.some.injEq] at hx'
          have hfind := mapIs_find (P := P) hks hqok hok hnd hl hperm w
          rw [← hes] at hfind
          have hkt : keyT P kt q = true := by simp only [keysT, Bool.and_eq_true] at hks; exact hks.1
          have hck := fun em => run_check hkt hqok em w
          have hget := Go.MapKept.run_getObj_map (P := P) hheap
          have hvl := dvl_length hus
          have fd := findK_dv (q := q) (ks := ks) (i := 0) hus (by omega)
          split at he
          · rename_i j v hf
            cases he
            obtain ⟨u, hfu, h3⟩ := fd.1 _ _ hf
            obtain ⟨j', bo, hlj, hrun⟩ := hfind.1 _ _ hfu
            refine ⟨[], if ok = true then .tuple #[u, .bool true] else u, w, ?_, by rw [List.append_nil]; exact h, .inl (val _ _ _ ?_)⟩
            · rw [List.append_nil]
              cases ok
              · simpa using h3
              · simp [dv, dvs, h3, evB_lit_ofB]
            · rw [← hx', hs']
              simp [Instr.lookup, run_underlying ht, hget, hck, hrun]
          · rename_i hf
            simp only [Option.map_eq_some_iff, Prod.mk.injEq] at he
            obtain ⟨za, hza, rfl, rfl⟩ := he
            obtain ⟨z, hz, hrz⟩ := zeroA_sound (bs := bs) (ρ := ρ) hza w
            have hrun := hfind.2 (fd.2 hf)
            refine ⟨[], if ok = true then .tuple #[z, .bool false] else z, w, ?_, by rw [List.append_nil]; exact h, .inl (val _ _ _ ?_)⟩
            · rw [List.append_nil]
              cases ok
              · simpa using hz
              · simp [dv, dvs, hz, evB_lit_ofB]
            · rw [← hx', hs']
              simp [Instr.lookup, run_underlying ht, hget, hck, hrun, hrz]
        · cases he
      · cases he
    · cases he
  · rename_i t m k x
    obtain ⟨rfl, w', hR, hrun⟩ := mapUpA_sound h (fun a ha => hev _ _ ha) (fun a ha => hev _ _ ha) (fun a ha => hev _ _ ha) he
    exact ⟨[], undef, w', rfl, by rw [List.append_nil]; exact hR, .inr ⟨by simp [execOp, hrun], rfl⟩⟩
  · rename_i t m k x
    obtain ⟨rfl, w', hR, hrun⟩ := mapUpA_sound h (fun a ha => hev _ _ ha) (fun a ha => hev _ _ ha) (fun a ha => hev _ _ ha) he
    exact ⟨[], undef, w', rfl, by rw [List.append_nil]; exact hR, .inr ⟨by simp [execOp, hrun], rfl⟩⟩
  · rename_i t x
    split at he
    · rename_i s ht hx
      cases he
      have hx' := hev _ _ hx
      simp only [dv, Option.some.injEq] at hx'
      refine ⟨_, _, _, newPtr h, h.newO (.siter s 0) (.stringIter s 0) ⟨heap_alloc_new w _, rfl⟩, .inl (val _ _ _ ?_)⟩
      rw [← hx']
      simp [Instr.range, run_underlying ht, newObj, Sem.run]
    · rename_i kt et id ht hx
      split at he
      · rename_i ks vs hid
        cases he
        obtain ⟨b, hb, us, es, clock, hus, ⟨hnd, hok⟩, hl, hheap, hes⟩ := h.rel id _ hid
        have hx' := hev _ _ hx
        simp only [dv, hb, Option.map_some, Option.some.injEq] at hx'
        have hget := Go.MapKept.run_getObj_map (P := P) hheap
        refine ⟨_, _, _, newPtr h, h.newO (.iter id) (.mapIter (some b.blk) clock #[] clock) ⟨b, clock, hb, heap_alloc_new w _, rfl⟩, .inl (val _ _ _ ?_)⟩
        rw [← hx']
        simp [Instr.range, run_underlying ht, hget, newObj, Sem.run]
      · cases he
    · cases he
  · rename_i x
    split at he
    · rename_i id hx
      split at he
      · rename_i s p hid
        obtain ⟨b, hb, hheap, hb0⟩ := h.rel id _ hid
        have hx' := hev _ _ hx
        simp only [dv, hb, Option.map_some, Option.some.injEq, hb0, Nat.add_zero] at hx'
        have hget := run_getO (P := P) hheap rfl
        split at he
        · rename_i c hc
          split at he
          · rename_i hc2
            cases he
            obtain ⟨hlt, hgc⟩ := List.getElem?_eq_some_iff.1 hc
            have hp : p < s.size := by simpa using hlt
            have hb1 : s.get! (p + 0) = c := by
              rw [get_at s p hp]
              have hgc' : s.data[p] = c := by simpa using hgc
              exact hgc'
            have hdec : Utf8.decode s p = (c.toNat, 1) := by
              simp only [Utf8.decode, hb1]
              rw [if_pos (by have := hc2.1; omega)]
            have hin : inR .i64 (p : Int) = true := decide_eq_true ⟨show (-9223372036854775808 : Int) ≤ p by omega, show (p : Int) ≤ 9223372036854775807 by have := hc2.2; omega⟩
            have hin2 : inR .i32 (c.toNat : Int) = true := decide_eq_true ⟨show (-2147483648 : Int) ≤ c.toNat by omega, show (c.toNat : Int) ≤ 2147483647 by have := hc2.1; omega⟩
            refine ⟨[], .tuple #[.bool true, .int .i64 p, .int .i32 c.toNat], _, ?_, by rw [List.append_nil]; exact h.setO (o' := .siter s (p + 1)) (obj := .stringIter s (p + 1)) hid rfl hb hheap ⟨(Go.MapKept.heap_set hheap).1, hb0⟩, .inl (val _ _ _ ?_)⟩
            · have e1 : ∀ bs : List Ent, dv bs ρ (.int .i64 (.lit (p : Int))) = some (.int .i64 p) := fun bs => dv_int_mk (e := .lit _) hin
              have e2 : ∀ bs : List Ent, dv bs ρ (.int .i32 (.lit (c.toNat : Int))) = some (.int .i32 c.toNat) := fun bs => dv_int_mk (e := .lit _) hin2
              have e3 : ∀ bs : List Ent, dv bs ρ (.bool (.lit 1)) = some (.bool true) := fun bs => rfl
              have d : dvs (bs ++ []) ρ (.cons (.bool (.lit 1)) (.cons (.int .i64 (.lit (p : Int))) (.cons (.int .i32 (.lit (c.toNat : Int))) .nil))) = some [.bool true, .int .i64 p, .int .i32 c.toNat] := by
                simp only [dvs, e1, e2, e3, Option.bind_some, Option.map_some]
              show (dvs (bs ++ []) ρ _).map _ = _
              rw [d]
              rfl
            · rw [← hx']
              simp [Instr.next, hget, hp, hdec, run_setO _ hheap rfl, goInt]
          · cases he
        · rename_i hc
          cases he
          have hp : ¬ p < s.size := by
            have := List.getElem?_eq_none_iff.1 hc
            simpa using this
          refine ⟨[], .tuple #[.bool false], w, rfl, by rw [List.append_nil]; exact h, .inl (val _ _ _ ?_)⟩
          rw [← hx']
          simp [Instr.next, hget, hp]
      · cases he
    · cases he
  · cases he
end Go.SX

