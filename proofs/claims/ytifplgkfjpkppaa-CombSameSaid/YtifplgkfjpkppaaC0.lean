/-
  A part of a proof: the lemmas that the last text joins. No conditions.
-/
import Derived.Orders
set_option linter.unusedSimpArgs false
set_option linter.unusedVariables false
namespace Go.Sx

structure El where
  (a0 a1 a2 a3 a4 a5 a6 a7 : Int)
structure Pt where
  (x y z : El)

def El.toL (a : El) : List Int := [a.a0, a.a1, a.a2, a.a3, a.a4, a.a5, a.a6, a.a7]
def El.ofL : List Int → El
  | [a0, a1, a2, a3, a4, a5, a6, a7] => ⟨a0, a1, a2, a3, a4, a5, a6, a7⟩
  | _ => ⟨0, 0, 0, 0, 0, 0, 0, 0⟩
instance : Inhabited El := ⟨⟨0, 0, 0, 0, 0, 0, 0, 0⟩⟩
instance : Inhabited Pt := ⟨⟨default, default, default⟩⟩
def Pt.toL (p : Pt) : List Int :=
  [p.x.a0, p.x.a1, p.x.a2, p.x.a3, p.x.a4, p.x.a5, p.x.a6, p.x.a7,
   p.y.a0, p.y.a1, p.y.a2, p.y.a3, p.y.a4, p.y.a5, p.y.a6, p.y.a7,
   p.z.a0, p.z.a1, p.z.a2, p.z.a3, p.z.a4, p.z.a5, p.z.a6, p.z.a7]
def Pt.ofL : List Int → Pt
  | [a0, a1, a2, a3, a4, a5, a6, a7, b0, b1, b2, b3, b4, b5, b6, b7, c0, c1, c2, c3, c4, c5, c6, c7] =>
    ⟨⟨a0, a1, a2, a3, a4, a5, a6, a7⟩, ⟨b0, b1, b2, b3, b4, b5, b6, b7⟩, ⟨c0, c1, c2, c3, c4, c5, c6, c7⟩⟩
  | _ => default

/-- Abstract values, and what objects hold. -/
inductive V where
  | any
  | int (k : IntKind) (n : Int)
  | bool (b : Bool)
  | str (s : ByteArray)
  | nilptr | nilsl | nilfn
  | ptr (n idx off : Nat)
  | eptr (n ver idx off : Nat)
  | slw (n ver : Nat)
  | sub (n ver lo len : Nat)
  | sl (n off len : Nat)
  | rptr (fr : Bool) (o : V) (idx off : Nat)
  | rs (fr : Bool) (o : V)
  | clo (f : FuncId) (first captured : List V)
  | ints (k : IntKind) (l : List Int)
  | agg (l : List V)
  | els (l : List El)
  | pts (l : List Pt)
  | gen (n size : Nat) (f : Nat → List V)
  | tup (l : List V)

/-- How many elements an object has. -/
def lenO : V → Nat
  | .ints _ l => l.length
  | .agg l => l.length
  | .els l => l.length
  | .pts l => l.length
  | .gen n _ _ => n
  | _ => 0
/-- How many cells an element has. -/
def strO : V → Nat
  | .els _ => 8
  | .pts _ => 24
  | .gen _ s _ => s
  | _ => 1

inductive SK where
  | ints (k : IntKind) | els | pts | agg | none
inductive TK where
  | int (k : IntKind) | str | bool | ptr | other
  | slice (elem : Nat)
  | array (n elem : Nat)
  | struct (fields : List (Nat × Nat))      -- offset, type
structure TD where
  size : Nat
  agg : Bool
  zero : V
  kind : TK
  seq : SK

/-- An object with a name. -/
structure Ent where
  grow : Bool
  ver : Nat
  o : V
abbrev Heap := List (Nat × Ent)
structure St where
  tmps : List (Nat × V)
  heap : Heap
  next : Nat

universe u
def lk {α : Type u} (n : Nat) : List (Nat × α) → Option α
  | [] => none
  | (m, x) :: r => bif Nat.beq n m then some x else lk n r

def getT (l : List (Nat × V)) (t : Nat) : V := match lk t l with | some v => v | none => .any
def putD (l : List (Nat × V)) : Option Nat → V → List (Nat × V)
  | some d, v => (d, v) :: l
  | none, _ => l

def ofConst : Value → V
  | .int k n => .int k n
  | .bool b => .bool b
  | .string s => .str s
  | .pointer none => .nilptr
  | .slice none 0 0 => .nilsl
  | .nilFunc => .nilfn
  | _ => .any

def ev (l : List (Nat × V)) : Operand → V
  | .tmp t => getT l t
  | .const v => ofConst v
  | .func f => .clo f [] []
  | .global _ => .any

def guard (b : Bool) (p : Prop) : Prop := match b with | true => p | false => False

def wr (k : IntKind) (n : Int) : Int := k.wrap n
def bits2 (op : BinOp) (k : IntKind) (x y : Int) : Int :=
  let a := BitVec.ofInt k.bits x
  let b := BitVec.ofInt k.bits y
  match op with
  | .and => k.wrap (a &&& b).toNat
  | .or => k.wrap (a ||| b).toNat
  | .xor => k.wrap (a ^^^ b).toNat
  | _ => k.wrap (a &&& ~~~b).toNat
def shlI (k : IntKind) (x y : Int) : Int := k.wrap (x * 2 ^ (min y.toNat k.bits))
def shrI (k : IntKind) (x y : Int) : Int := x.fdiv (2 ^ (min y.toNat k.bits))

def kindEq : IntKind → IntKind → Bool
  | .i8, .i8 | .i16, .i16 | .i32, .i32 | .i64, .i64 | .u8, .u8 | .u16, .u16 | .u32, .u32 | .u64, .u64 => true
  | _, _ => false

/-- x == y, where no integers are held against each other. -/
def eqV (k : TK) (x y : V) : Option Bool :=
  match k with
  | .ptr => (match x, y with
    | .nilptr, .nilptr => some true
    | .rptr .., .nilptr => some false
    | _, _ => none)
  | .bool => (match x, y with
    | .bool a, .bool b => some (a == b)
    | _, _ => none)
  | .slice _ => (match x, y with
    | .nilsl, .nilsl => some true
    | .rs _ o, .nilsl => bif Nat.blt 0 (lenO o) then some false else none
    | _, _ => none)
  | _ => none

def binI (op : BinOp) (k : IntKind) (a : Int) (k' : IntKind) (b : Int) (K : V → Prop) : Prop :=
  match op with
  | .shl => guard (decide (0 ≤ b)) (K (.int k (shlI k a b)))
  | .shr => guard (decide (0 ≤ b)) (K (.int k (shrI k a b)))
  | .add => guard (kindEq k k') (K (.int k (wr k (a + b))))
  | .sub => guard (kindEq k k') (K (.int k (wr k (a - b))))
  | .mul => guard (kindEq k k') (K (.int k (wr k (a * b))))
  | .quo => guard (kindEq k k') (guard (!decide (b = 0)) (K (.int k (wr k (a.tdiv b)))))
  | .rem => guard (kindEq k k') (guard (!decide (b = 0)) (K (.int k (a.tmod b))))
  | .and => guard (kindEq k k') (K (.int k (bits2 .and k a b)))
  | .or => guard (kindEq k k') (K (.int k (bits2 .or k a b)))
  | .xor => guard (kindEq k k') (K (.int k (bits2 .xor k a b)))
  | .andNot => guard (kindEq k k') (K (.int k (bits2 .andNot k a b)))
  | .eql => guard (kindEq k k') (K (.bool (a == b)))
  | .neq => guard (kindEq k k') (K (.bool (a != b)))
  | .lss => guard (kindEq k k') (K (.bool (decide (a < b))))
  | .leq => guard (kindEq k k') (K (.bool (decide (a ≤ b))))
  | .gtr => guard (kindEq k k') (K (.bool (decide (a > b))))
  | .geq => guard (kindEq k k') (K (.bool (decide (a ≥ b))))

/-- Two arrays of numbers, held against each other. -/
def eqArr (td : Nat → Option TD) (t : Nat) (k : IntKind) (l : List Int) (k' : IntKind) (m : List Int) (K : Bool → Prop) : Prop :=
  match td t with
  | some ⟨_, _, _, .array n e, _⟩ => (match td e with
    | some ⟨s, _, _, .int _, _⟩ => guard (kindEq k k' && Nat.beq l.length n && Nat.beq m.length n && Nat.beq s 1) (K (l == m))
    | _ => False)
  | _ => False
def binV (td : Nat → Option TD) (op : BinOp) (t : Nat) (x y : V) (K : V → Prop) : Prop :=
  match x with
  | .int k a =>
    match y with
    | .int k' b => binI op k a k' b K
    | _ => False
  | .ints k l =>
    match y with
    | .ints k' m => (match op with
      | .eql => eqArr td t k l k' m (fun b => K (.bool b))
      | .neq => eqArr td t k l k' m (fun b => K (.bool (!b)))
      | _ => False)
    | _ => False
  | x => match td t with
    | some d => (match op with
      | .eql => (match eqV d.kind x y with | some b => K (.bool b) | none => False)
      | .neq => (match eqV d.kind x y with | some b => K (.bool (!b)) | none => False)
      | _ => False)
    | none => False

/-- Behind a pointer: the object, which element, which cell of it. -/
def deref (h : Heap) : V → Option (V × Nat × Nat)
  | .ptr n i f => match lk n h with | some ⟨false, _, o⟩ => (bif Nat.beq i 0 then some (o, i, f) else none) | _ => none
  | .eptr n v i f => match lk n h with | some ⟨true, v', o⟩ => (bif Nat.beq v v' then some (o, i, f) else none) | _ => none
  | .rptr _ o i f => some (o, i, f)
  | _ => none
def fix1 (fr : Bool) : V → V
  | .rs _ o => .rs fr o
  | .rptr _ o i f => .rptr fr o i f
  | v => v
/-- What is loaded out of what is only read is as fresh as that. -/
def fixc (p : V) (v : V) : V :=
  match p with
  | .rptr fr _ _ _ => fix1 fr v
  | _ => v
def fixA (p : V) (v : V) : V :=
  match p with
  | .rptr fr _ _ _ => (match v with
    | .agg l => .agg (l.map (fix1 fr))
    | v => v)
  | _ => v

def cellAt (o : V) (idx off : Nat) (K : V → Prop) : Prop :=
  match o with
  | .ints k l => guard (Nat.beq idx 0 && Nat.blt off l.length) (K (.int k (l.getD off 0)))
  | .agg l => guard (Nat.beq idx 0) (match l[off]? with | some v => K v | none => False)
  | .gen n s f => guard (Nat.blt idx n && Nat.blt off s) (match (f idx)[off]? with | some v => K v | none => False)
  | _ => False
def partAt (o : V) (idx off n : Nat) (K : V → Prop) : Prop :=
  match o with
  | .ints k l => guard (Nat.beq idx 0 && Nat.ble (off + n) l.length) (K (.ints k ((l.drop off).take n)))
  | .agg l => guard (Nat.beq idx 0 && Nat.ble (off + n) l.length) (K (.agg ((l.drop off).take n)))
  | .els l => guard (Nat.blt idx l.length && Nat.ble (off + n) 8) (K (.ints .u64 ((((l.getD idx default).toL).drop off).take n)))
  | .pts l => guard (Nat.blt idx l.length && Nat.ble (off + n) 24) (K (.ints .u64 ((((l.getD idx default).toL).drop off).take n)))
  | .gen m s f => guard (Nat.blt idx m && Nat.ble (off + n) s) (K (.agg (((f idx).drop off).take n)))
  | _ => False
def loadV (d : TD) (c : V) (p : V × Nat × Nat) (K : V → Prop) : Prop :=
  match d.agg with
  | true => partAt p.1 p.2.1 p.2.2 d.size (fun v => K (fixA c v))
  | false => cellAt p.1 p.2.1 p.2.2 (fun v => K (fixc c v))

def setL {α : Type} : List α → Nat → α → List α
  | [], _, _ => []
  | _ :: r, 0, v => v :: r
  | x :: r, n + 1, v => x :: setL r n v
def spliceL {α : Type} (l : List α) (off : Nat) (new : List α) : List α := l.take off ++ (new ++ l.drop (off + new.length))

/-- May a cell hold it? -/
def V.cellish : V → Bool
  | .any | .ints .. | .agg _ | .els _ | .pts _ | .gen .. | .tup _ => false
  | _ => true

def putAt (o : V) (idx off : Nat) (v : V) (K : V → Prop) : Prop :=
  match o with
  | .ints k l =>
    match v with
    | .int k' x => guard (Nat.beq idx 0 && kindEq k k' && Nat.blt off l.length) (K (.ints k (setL l off x)))
    | .ints k' m => guard (Nat.beq idx 0 && kindEq k k' && Nat.ble (off + m.length) l.length) (K (.ints k (spliceL l off m)))
    | _ => False
  | .agg l =>
    match v with
    | .agg m => guard (Nat.beq idx 0 && Nat.ble (off + m.length) l.length) (K (.agg (spliceL l off m)))
    | .ints k m => guard (Nat.beq idx 0 && Nat.ble (off + m.length) l.length) (K (.agg (spliceL l off (m.map (.int k)))))
    | v => guard (v.cellish && Nat.beq idx 0 && Nat.blt off l.length) (K (.agg (setL l off v)))
  | .pts l =>
    match v with
    | .ints .u64 m => guard (Nat.beq off 0 && Nat.beq m.length 24 && Nat.blt idx l.length) (K (.pts (setL l idx (Pt.ofL m))))
    | _ => False
  | _ => False

structure Spec where
  Y : Type
  shape : List V → Bool
  req : Option (List V → Prop)
  val : List V → Y
  res : Y → V
  named : Bool
  own : Bool

/-- An aggregate as an object; false: it can be none. -/
def asObj : V → Option V
  | .ints k l => some (.ints k l)
  | .agg l => some (.agg l)
  | .int k n => some (.ints k [n])
  | v => match v.cellish with | true => some (.agg [v]) | false => none

def seqOf : V → Bool
  | .ints .. | .els _ | .pts _ => true
  | _ => false

def subO (o : V) (lo n : Nat) : V :=
  match o with
  | .ints k l => .ints k ((l.drop lo).take n)
  | .els l => .els ((l.drop lo).take n)
  | .pts l => .pts ((l.drop lo).take n)
  | .agg l => .agg ((l.drop lo).take n)
  | .gen _ s f => .gen n s (fun i => f (lo + i))
  | _ => .any

def flatO : V → Bool
  | .ints .. | .els _ | .pts _ => true
  | _ => false

/-- A value of a cell as one that is only read. -/
def ro0 (h : Heap) (v : V) : V :=
  match v with
  | .slw n ver => match lk n h with | some ⟨true, ver', o⟩ => (bif Nat.beq ver ver' && flatO o then .rs false o else .any) | _ => .any
  | .sub n ver lo len => match lk n h with | some ⟨true, ver', o⟩ => (bif Nat.beq ver ver' && flatO o && Nat.ble (lo + len) (lenO o) then .rs false (subO o lo len) else .any) | _ => .any
  | .sl n off len => match lk n h with
    | some ⟨false, _, .ints k l⟩ => (bif Nat.ble (off + len) l.length then .rs false (.ints k ((l.drop off).take len)) else .any)
    | _ => .any
  | .rs _ o => .rs false o
  | .rptr _ o i f => .rptr false o i f
  | .int k n => .int k n
  | .bool b => .bool b
  | .str s => .str s
  | .nilptr => .nilptr
  | .nilsl => .nilsl
  | .nilfn => .nilfn
  | _ => .any
/-- A value as one that is only read. -/
def roV (h : Heap) (v : V) : V :=
  match v with
  | .slw n ver => match lk n h with
    | some ⟨true, ver', .agg l⟩ => (bif Nat.beq ver ver' then .rs false (.agg (l.map (ro0 h))) else .any)
    | _ => ro0 h (.slw n ver)
  | .ptr n i f => match lk n h with
    | some ⟨false, _, .agg l⟩ => .rptr false (.agg (l.map (ro0 h))) i f
    | some ⟨false, _, .ints k l⟩ => .rptr false (.ints k l) i f
    | _ => .any
  | .agg l => .agg (l.map (ro0 h))
  | .ints k l => .ints k l
  | v => ro0 h v

/-- The object that a slice shows. -/
def seqV (h : Heap) (v : V) : Option V :=
  match v with
  | .nilsl => none
  | v => match roV h v with
    | .rs _ o => some o
    | _ => none

def appO (x y : V) : Option V :=
  match x, y with
  | .ints k l, .ints k' m => bif kindEq k k' then some (.ints k (l ++ m)) else none
  | .els l, .els m => some (.els (l ++ m))
  | .pts l, .pts m => some (.pts (l ++ m))
  | _, _ => none

structure Env where
  td : Nat → Option TD
  specs : List (Nat × Spec)

abbrev OpK := V → Heap → Prop

def mostLen : Nat := 268435456

/-- append(x, y) -/
def appendV (h : Heap) (nm : Nat) (x y : V) (K : OpK) : Prop :=
  match seqV h y with
  | none => False
  | some oy =>
    match x with
    | .nilsl => guard (flatO oy && Nat.ble (lenO oy) mostLen) (K (.slw nm nm) ((nm, ⟨true, nm, oy⟩) :: h))
    | .slw n ver => match lk n h with
      | some ⟨true, ver', ox⟩ => guard (Nat.beq ver ver') (match appO ox oy with
        | some o => guard (Nat.ble (lenO ox + lenO oy) mostLen) (K (.slw n nm) ((n, ⟨true, nm, o⟩) :: h))
        | none => False)
      | _ => False
    | _ => False

def lenV (h : Heap) (v : V) (K : V → Prop) : Prop :=
  match v with
  | .nilsl => K (.int .i64 0)
  | .str s => K (.int .i64 s.size)
  | .rs _ o => K (.int .i64 (lenO o))
  | .slw n ver => match lk n h with
    | some ⟨true, ver', o⟩ => guard (Nat.beq ver ver') (K (.int .i64 (lenO o)))
    | _ => False
  | .sub n ver _ len => match lk n h with
    | some ⟨true, ver', _⟩ => guard (Nat.beq ver ver') (K (.int .i64 len))
    | _ => False
  | .sl n _ len => match lk n h with
    | some ⟨false, _, _⟩ => K (.int .i64 len)
    | _ => False
  | _ => False

/-- The place of an element of a slice. -/
def eltV (h : Heap) (v : V) (j : Int) (K : V → Prop) : Prop :=
  match v with
  | .rs fr o => guard (decide (0 ≤ j ∧ j < (lenO o : Int))) (bif Nat.beq (strO o) 1 then K (.rptr fr o 0 j.toNat) else K (.rptr fr o j.toNat 0))
  | .slw n ver => match lk n h with
    | some ⟨true, ver', o⟩ => guard (Nat.beq ver ver') (guard (decide (0 ≤ j ∧ j < (lenO o : Int))) (bif Nat.beq (strO o) 1 then K (.eptr n ver 0 j.toNat) else K (.eptr n ver j.toNat 0)))
    | _ => False
  | .sl n off len => (match lk n h with
    | some ⟨false, _, _⟩ => guard (decide (0 ≤ j ∧ j < (len : Int))) (K (.ptr n 0 (off + j.toNat)))
    | _ => False)
  | _ => False

def sliceHi (hi : Option V) (n : Nat) (K : Int → Prop) : Prop :=
  match hi with
  | none => K n
  | some (.int _ j) => K j
  | _ => False

/-- x[lo:hi:max] -/
def sliceV (td : Nat → Option TD) (h : Heap) (d : TK) (x : V) (lo hi mx : Option V) (K : V → Prop) : Prop :=
  guard (match mx with | none => true | some _ => (match hi with | none => false | some _ => true)) (
  match d with
  | .array n e => match td e with
    | some de => (match x with
      | .ptr m 0 off => match lk m h with
        | some ⟨false, _, _⟩ => guard (Nat.beq de.size 1) (sliceHi lo 0 fun l => sliceHi hi n fun t => sliceHi mx n fun u => guard (decide (0 ≤ l ∧ l ≤ t ∧ t ≤ u ∧ u ≤ (n : Int))) (K (.sl m (off + l.toNat) (t.toNat - l.toNat))))
        | _ => False
      | _ => False)
    | none => False
  | .slice e => match td e with
    | some de => (match x with
      | .rs fr o => guard (Nat.beq (strO o) de.size) (sliceHi lo 0 fun l => sliceHi hi (lenO o) fun t => sliceHi mx (lenO o) fun u => guard (decide (0 ≤ l ∧ l ≤ t ∧ t ≤ u ∧ u ≤ (lenO o : Int))) (K (.rs fr (subO o l.toNat (t.toNat - l.toNat)))))
      | .slw n ver => match lk n h with
        | some ⟨true, ver', o⟩ => guard (Nat.beq (strO o) de.size && Nat.beq ver ver') (sliceHi lo 0 fun l => sliceHi hi (lenO o) fun t => sliceHi mx (lenO o) fun u => guard (decide (0 ≤ l ∧ l ≤ t ∧ t ≤ u ∧ u ≤ (lenO o : Int))) (K (.sub n ver l.toNat (t.toNat - l.toNat))))
        | _ => False
      | _ => False)
    | none => False
  | _ => False)

def chunk8 : List Int → List El
  | a0 :: a1 :: a2 :: a3 :: a4 :: a5 :: a6 :: a7 :: r => ⟨a0, a1, a2, a3, a4, a5, a6, a7⟩ :: chunk8 r
  | _ => []
def chunk24 : List Int → List Pt
  | a0 :: a1 :: a2 :: a3 :: a4 :: a5 :: a6 :: a7 :: b0 :: b1 :: b2 :: b3 :: b4 :: b5 :: b6 :: b7 :: c0 :: c1 :: c2 :: c3 :: c4 :: c5 :: c6 :: c7 :: r =>
    ⟨⟨a0, a1, a2, a3, a4, a5, a6, a7⟩, ⟨b0, b1, b2, b3, b4, b5, b6, b7⟩, ⟨c0, c1, c2, c3, c4, c5, c6, c7⟩⟩ :: chunk24 r
  | _ => []
def zeros (l : List Int) : Bool := l.all (fun x => decide (x = 0))
/-- The object of a slice that is written out: at first .. -/
def litO (sk : SK) (s : Nat) (z : V) (len : Nat) : Option V :=
  match sk with
  | .ints k => (match z with | .int k' n => (bif Nat.beq s 1 && kindEq k k' && decide (n = 0) then some (.ints k (List.replicate len 0)) else none) | _ => none)
  | .els => (match z with | .ints .u64 l => (bif Nat.beq s 8 && Nat.beq l.length 8 && zeros l then some (.ints .u64 (List.replicate (len * 8) 0)) else none) | _ => none)
  | .pts => (match z with | .ints .u64 l => (bif Nat.beq s 24 && Nat.beq l.length 24 && zeros l then some (.ints .u64 (List.replicate (len * 24) 0)) else none) | _ => none)
  | .agg => bif Nat.beq s 1 && z.cellish then some (.agg (List.replicate len z)) else none
  | .none => none
/-- .. and in the end. -/
def litE (sk : SK) (o : V) : Option V :=
  match sk with
  | .ints _ => some o
  | .agg => some o
  | .els => (match o with | .ints .u64 l => some (.els (chunk8 l)) | _ => none)
  | .pts => (match o with | .ints .u64 l => some (.pts (chunk24 l)) | _ => none)
  | .none => none

def sizeV : V → Option Nat
  | .ints _ l => some l.length
  | .agg l => some l.length
  | v => match v.cellish with | true => some 1 | false => none
/-- Where a part lies, and how large it is. -/
def placeOf (k : TK) (td : Nat → Option TD) (i : Nat) : Option (Nat × Nat) :=
  match k with
  | .struct fs => match fs[i]? with | some (o, t) => (match td t with | some d => some (o, d.size) | none => none) | none => none
  | .array _ e => match td e with | some d => some (i * d.size, d.size) | none => none
  | _ => none

def buildV (k : TK) (td : Nat → Option TD) : List (Nat × V) → V → (V → Prop) → Prop
  | [], o, K => K o
  | (i, v) :: r, o, K => match placeOf k td i with
    | some (off, s) => (match sizeV v with
      | some s' => guard (Nat.beq s s') (putAt o 0 off v (fun o' => buildV k td r o' K))
      | none => False)
    | none => False

def addOff (v : V) (k : Nat) : V :=
  match v with
  | .ptr n i f => .ptr n i (f + k)
  | .eptr n w i f => .eptr n w i (f + k)
  | .rptr fr o i f => .rptr fr o i (f + k)
  | _ => .any

def oneOp (E : Env) (T : List (Nat × V)) (h : Heap) (nm : Nat) (o : Op) (K : OpK) : Prop :=
  match o with
  | .move x => K (ev T x) h
  | .assign x => K (ev T x) h
  | .pick c a b => match ev T c with
    | .bool t => (match t with | true => K (ev T a) h | false => K (ev T b) h)
    | _ => False
  | .alloc t => match E.td t with
    | some d => (match asObj d.zero with | some o => K (.ptr nm 0 0) ((nm, ⟨false, 0, o⟩) :: h) | none => False)
    | none => False
  | .box _ x => match asObj (ev T x) with | some o => K (.ptr nm 0 0) ((nm, ⟨false, 0, o⟩) :: h) | none => False
  | .load t a => match deref h (ev T a) with
    | some p => (match E.td t with | some d => loadV d (ev T a) p (fun v => K v h) | none => False)
    | none => False
  | .store t a x => match E.td t with
    | none => False
    | some d => match ev T a with
      | .ptr n idx off => (match lk n h with
        | some ⟨false, ver, ob⟩ => putAt ob idx off (ev T x) (fun ob' => guard (match ev T x with | .ints _ l => Nat.beq l.length d.size | .agg l => Nat.beq l.length d.size | _ => Nat.beq 1 d.size) (K .any ((n, ⟨false, ver, ob'⟩) :: h)))
        | _ => False)
      | .eptr n ver idx off => (match lk n h with
        | some ⟨true, ver', ob⟩ => guard (Nat.beq ver ver') (putAt ob idx off (ev T x) (fun ob' => guard (match ev T x with | .ints _ l => Nat.beq l.length d.size | .agg l => Nat.beq l.length d.size | _ => Nat.beq 1 d.size) (K .any ((n, ⟨true, ver', ob'⟩) :: h))))
        | _ => False)
      | _ => False
  | .binOp op t x y _ => binV E.td op t (ev T x) (ev T y) (fun v => K v h)
  | .unOp op _ x => match op with
    | .not => (match ev T x with | .bool b => K (.bool (!b)) h | _ => False)
    | .neg => (match ev T x with | .int k n => K (.int k (wr k (0 - n))) h | _ => False)
    | _ => False
  | .convert s d x => match E.td s, E.td d with
    | some _, some ⟨_, _, _, .int k, _⟩ => (match ev T x with | .int _ n => K (.int k (wr k n)) h | _ => False)
    | _, _ => False
  | .makeFunc fn first captured => match fn with
    | .func f => K (.clo f (first.toList.map (ev T)) (captured.toList.map (ev T))) h
    | _ => False
  | .fieldAddr s x f => match E.td s with
    | some ⟨_, _, _, .struct fs, _⟩ => (match fs[f]? with
      | some (o, _) => (match deref h (ev T x) with
        | some _ => K (addOff (ev T x) o) h
        | none => False)
      | none => False)
    | _ => False
  | .field s x f => match E.td s with
    | some ⟨_, _, _, .struct fs, _⟩ => (match fs[f]? with
      | some (o, t) => (match E.td t with
        | some d => (match ev T x with
          | .ints k l => loadV d .any (.ints k l, 0, o) (fun v => K v h)
          | .agg l => loadV d .any (.agg l, 0, o) (fun v => K v h)
          | _ => False)
        | none => False)
      | none => False)
    | _ => False
  | .indexAddr t x i => match E.td t with
    | some ⟨_, _, _, .array n e, _⟩ => (match E.td e with
      | some d => (match ev T i with
        | .int _ j => guard (decide (0 ≤ j ∧ j < (n : Int))) (match deref h (ev T x) with
          | some _ => K (addOff (ev T x) (j.toNat * d.size)) h
          | none => False)
        | _ => False)
      | none => False)
    | some ⟨_, _, _, .slice e, _⟩ => (match E.td e with
      | some d => (match ev T i with
        | .int _ j => (match ev T x with
          | .rs fr o => guard (Nat.beq (strO o) d.size) (eltV h (.rs fr o) j (fun v => K v h))
          | .slw n ver => (match lk n h with | some ⟨_, _, o⟩ => guard (Nat.beq (strO o) d.size) (eltV h (.slw n ver) j (fun v => K v h)) | none => False)
          | .sl n off len => guard (Nat.beq 1 d.size) (eltV h (.sl n off len) j (fun v => K v h))
          | _ => False)
        | _ => False)
      | none => False)
    | _ => False
  | .index t x i => match ev T i with
    | .int _ j => (match ev T x with
      | .str s => (match E.td t with
        | some ⟨_, _, _, .str, _⟩ => guard (decide (0 ≤ j) && Nat.blt j.toNat s.size) (K (.int .u8 ((s.data.toList.getD j.toNat 0).toNat : Int)) h)
        | _ => False)
      | .ints k l => (match E.td t with
        | some ⟨_, _, _, .array n e, _⟩ => (match E.td e with
          | some d => guard (decide (0 ≤ j ∧ j < (n : Int))) (loadV d .any (.ints k l, 0, j.toNat * d.size) (fun v => K v h))
          | none => False)
        | _ => False)
      | _ => False)
    | _ => False
  | .build t ps => match E.td t with
    | some ⟨_, _, z, k, _⟩ => (match asObj z with
      | some o => guard (match k with | .struct _ => true | .array _ e => (match E.td e with | some _ => true | none => false) | _ => false) (buildV k E.td (ps.toList.map fun p => (p.1, ev T p.2)) o (fun v => K v h))
      | none => False)
    | none => False
  | .buildSlice t len ps => match E.td t with
    | some ⟨_, _, _, .slice e, _⟩ => (match E.td e with
      | some d => (match litO d.seq d.size d.zero len with
        | some o0 => guard (Nat.ble (len * d.size) 65536) (buildV (.array len e) E.td (ps.toList.map fun p => (p.1, ev T p.2)) o0 (fun o => match litE d.seq o with
          | some o => K (.slw nm nm) ((nm, ⟨true, nm, o⟩) :: h)
          | none => False))
        | none => False)
      | none => False)
    | _ => False
  | .makeSlice t l c => match E.td t with
    | some ⟨_, _, _, .slice e, _⟩ => (match E.td e with
      | some ⟨sz, _, .int k' z, .int k, _⟩ => (match ev T l with
        | .int _ n => (match ev T c with
          | .int _ m => guard (Nat.beq sz 1 && kindEq k k' && decide (z = 0) && decide (0 ≤ n ∧ n ≤ 4294967296 ∧ m = n)) (K (.slw nm nm) ((nm, ⟨true, nm, .ints k (List.replicate n.toNat 0)⟩) :: h))
          | _ => False)
        | _ => False)
      | _ => False)
    | _ => False
  | .slice t x lo hi mx => match E.td t with
    | some d => sliceV E.td h d.kind (ev T x) (lo.map (ev T)) (hi.map (ev T)) (mx.map (ev T)) (fun v => K v h)
    | none => False
  | .sliceToArrayPointer t x => match E.td t with
    | some ⟨_, _, _, .array n _, _⟩ => (match ev T x with
      | .sl m off len => (match lk m h with
        | some ⟨false, _, _⟩ => guard (Nat.ble n len && Nat.blt 0 n) (K (.ptr m 0 off) h)
        | _ => False)
      | _ => False)
    | _ => False
  | .nilCheck x => match deref h (ev T x) with
    | some _ => K (ev T x) h
    | none => False
  | .extract t i => match ev T t with
    | .tup l => (match l[i]? with | some v => K v h | none => False)
    | _ => False
  | _ => False

def maxI (a b : Int) : Int := if b > a then b else a

def builtinV (E : Env) (h : Heap) (b : Builtin) (args : List V) (tys : List Nat) (nm : Nat) (K : OpK) : Prop :=
  match b with
  | .len => (match args with
    | [v] => (match tys with
      | [t] => (match E.td t with
        | some ⟨_, _, _, .array n _, _⟩ => K (.int .i64 n) h
        | some ⟨_, _, _, .slice _, _⟩ => (match v with | .str _ => False | v => lenV h v (fun v => K v h))
        | some ⟨_, _, _, .str, _⟩ => (match v with | .str s => K (.int .i64 s.size) h | _ => False)
        | _ => False)
      | _ => False)
    | _ => False)
  | .append => (match args with
    | [x, y] => (match tys with
      | [t, u] => (match E.td t with
        | some ⟨_, _, _, .slice e, _⟩ => (match E.td e with
          | some d => (match E.td u with
            | some ⟨_, _, _, .slice _, _⟩ => (match seqV h y with
              | some oy => guard (Nat.beq (strO oy) d.size) (appendV h nm x y K)
              | none => False)
            | _ => False)
          | none => False)
        | _ => False)
      | _ => False)
    | _ => False)
  | .max => (match args with
    | [.int k a, .int _ b] => K (.int k (maxI a b)) h
    | _ => False)
  | _ => False

end Go.Sx

namespace Go.Sx

universe v
abbrev CallK := V → Heap → Nat → Prop
abbrev Handler := Nat → List V → Heap → Nat → CallK → Prop

/-- A result of a call: it lies in new memory. -/
def fresh1 : V → V
  | .rs _ o => .rs true o
  | .rptr _ o i f => .rptr true o i f
  | v => v
def freshV : V → V
  | .tup l => .tup (l.map fresh1)
  | v => fresh1 v

/-- What a call hands back, as one that is only read; what is not new memory: any. -/
def ret0 (h : Heap) (v : V) : V :=
  match v with
  | .rs fr o => bif fr then .rs false o else .any
  | .rptr fr o i f => bif fr then .rptr false o i f else .any
  | v => ro0 h v
def ret1 (h : Heap) (v : V) : V :=
  match v with
  | .slw n ver => match lk n h with
    | some ⟨true, ver', .agg l⟩ => (bif Nat.beq ver ver' then .rs false (.agg (l.map (ret0 h))) else .any)
    | _ => ro0 h (.slw n ver)
  | .ptr n i f => match lk n h with
    | some ⟨false, _, .agg l⟩ => .rptr false (.agg (l.map (ret0 h))) i f
    | some ⟨false, _, .ints k l⟩ => .rptr false (.ints k l) i f
    | _ => .any
  | .agg l => .agg (l.map (ret0 h))
  | .ints k l => .ints k l
  | v => ret0 h v
def retV (h : Heap) (v : V) : V :=
  match v with
  | .tup l => .tup (l.map (ret1 h))
  | v => ret1 h v

def specRes (S : Spec) (y : S.Y) (h : Heap) (nm : Nat) (K : CallK) : Prop :=
  match S.own with
  | false => K (freshV (S.res y)) h (nm + 1)
  | true => match S.res y with
    | .rs _ o => K (.slw nm nm) ((nm, ⟨true, nm, o⟩) :: h) (nm + 1)
    | _ => False

def specCall (S : Spec) (args : List V) (h : Heap) (nm : Nat) (K : CallK) : Prop :=
  guard (S.shape (args.map (roV h))) (
    match S.req with
    | none => (match S.named with
      | false => specRes S (S.val (args.map (roV h))) h nm K
      | true => ∀ y, y = S.val (args.map (roV h)) → specRes S y h nm K)
    | some r => r (args.map (roV h)) ∧ (match S.named with
      | false => specRes S (S.val (args.map (roV h))) h nm K
      | true => ∀ y, y = S.val (args.map (roV h)) → specRes S y h nm K))

def dstOf (ops : List Oper) (j : Nat) : Option Nat := match ops[j]? with | some o => o.dst | none => none

def stepOp (E : Env) (call : Handler) (st : St) (o : Oper) (K : St → Prop) : Prop :=
  match o.op with
  | .call c => match c.callee with
    | .builtin b => builtinV E st.heap b (c.args.toList.map (ev st.tmps)) c.argTypes.toList st.next (fun v h => K ⟨putD st.tmps o.dst v, h, st.next + 1⟩)
    | .value f => (match ev st.tmps f with
      | .clo g first captured => call g (first ++ (c.args.toList.map (ev st.tmps) ++ captured)) st.heap st.next (fun v h n => K ⟨putD st.tmps o.dst v, h, n⟩)
      | _ => False)
    | _ => False
  | op => oneOp E st.tmps st.heap st.next op (fun v h => K ⟨putD st.tmps o.dst v, h, st.next + 1⟩)

/-- A guard's word: some none: the operation that it hangs on did not run. -/
def wordOf : V → Option (Option Bool)
  | .bool t => some (some t)
  | .tup _ => some none
  | _ => none
def runOps (E : Env) (call : Handler) (all : List Oper) : List Oper → St → (St → Prop) → Prop
  | [], st, K => K st
  | o :: r, st, K => match o.guard with
    | none => stepOp E call st o (fun s => runOps E call all r s K)
    | some (j, want) => match dstOf all j with
      | none => False
      | some d => match wordOf (getT st.tmps d) with
        | some (some t) => (match t with
          | true => (match want with
            | true => stepOp E call ⟨(d, .bool true) :: st.tmps, st.heap, st.next⟩ o (fun s => runOps E call all r s K)
            | false => runOps E call all r ⟨putD ((d, .bool true) :: st.tmps) o.dst (.tup []), st.heap, st.next + 1⟩ K)
          | false => (match want with
            | false => stepOp E call ⟨(d, .bool false) :: st.tmps, st.heap, st.next⟩ o (fun s => runOps E call all r s K)
            | true => runOps E call all r ⟨putD ((d, .bool false) :: st.tmps) o.dst (.tup []), st.heap, st.next + 1⟩ K))
        | some none => runOps E call all r ⟨putD st.tmps o.dst (.tup []), st.heap, st.next + 1⟩ K
        | none => False

/-! ### Operations whose order is drawn -/
/-- The names in a value. -/
def vn1 : V → List Nat
  | .ptr n _ _ => [n]
  | .eptr n _ _ _ => [n]
  | .slw n _ => [n]
  | .sub n _ _ _ => [n]
  | .sl n _ _ => [n]
  | _ => []
def vnA : V → List Nat
  | .agg l => l.flatMap vn1
  | v => vn1 v
def vn2 : V → List Nat
  | .clo _ a b => a.flatMap vnA ++ b.flatMap vnA
  | v => vnA v
/-- Where a reader of this value looks. -/
def footV (h : Heap) (v : V) : List Nat := (vn2 v).flatMap fun n => n :: match lk n h with | some e => vnA e.o | none => []
/-- Which names an operation changes, beside its own. -/
def chg (T : List (Nat × V)) (o : Op) : List Nat :=
  match o with
  | .store _ a _ => vn1 (ev T a)
  | .call c => (match c.callee with
    | .builtin .append => (match c.args.toList with | x :: _ => vn1 (ev T x) | [] => [])
    | _ => [])
  | _ => []
def maskT (l : List Nat) (m : Nat) : Nat := l.foldr (fun t m => Nat.lor (Nat.shiftLeft 1 (2 * t)) m) m
def maskN (l : List Nat) (m : Nat) : Nat := l.foldr (fun t m => Nat.lor (Nat.shiftLeft 1 (2 * t + 1)) m) m
def tmpOf : Operand → List Nat
  | .tmp t => [t]
  | _ => []
def looks (all : List Oper) (o : Oper) : List Nat := o.op.operands.toList.flatMap tmpOf ++ (match o.guard with | some (j, _) => (match dstOf all j with | some d => [d] | none => []) | none => [])
def readM (all : List Oper) (st : St) (o : Oper) : Nat := maskT (looks all o) (maskN (o.op.operands.toList.flatMap fun x => footV st.heap (ev st.tmps x)) 0)
def writeM (st : St) (o : Oper) : Nat := maskT (match o.dst with | some d => [d] | none => []) (maskN (st.next :: chg st.tmps o.op) 0)

structure Info where
  i : Nat
  anc : Nat
  R : Nat
  W : Nat
def bindsOn (e : Edge) : Bool := match e.ground with | .textOnly _ | .gcOnly _ => false | _ => true
def preds (o : Oper) : List Nat := (o.after.toList.filter bindsOn).map (fun e => e.on)
def tbit (m i : Nat) : Bool := Nat.testBit m i
def infoOf : List Info → Nat → Nat
  | [], _ => 0
  | c :: r, y => bif Nat.beq c.i y then c.anc else infoOf r y
def ancOf (acc : List Info) (ps : List Nat) : Nat := ps.foldr (fun y m => Nat.lor (Nat.lor (Nat.shiftLeft 1 y) (infoOf acc y)) m) 0
def apartM (R W R' W' : Nat) : Bool := Nat.beq (Nat.land W (Nat.lor R' W')) 0 && Nat.beq (Nat.land W' R) 0
def okPairs (anc R W : Nat) (acc : List Info) : Bool := acc.all fun c => Nat.testBit anc c.i || apartM c.R c.W R W
def forceN {α : Sort v} (n : Nat) (k : Nat → α) : α := Nat.rec (k 0) (fun m _ => k (m + 1)) n

def drawOp (E : Env) (call : Handler) (all : List Oper) (i : Nat) (acc : List Info) (st : St) (o : Oper) (K : List Info → St → Prop) : Prop :=
  forceN (readM all st o) fun R => forceN (writeM st o) fun W => forceN (ancOf acc (preds o)) fun anc =>
    guard (okPairs anc R W acc && (preds o).all (fun y => Nat.blt y i)) (stepOp E call st o (K (⟨i, anc, R, W⟩ :: acc)))
def drawSkip (all : List Oper) (i : Nat) (acc : List Info) (st : St) (o : Oper) (K : List Info → St → Prop) : Prop :=
  forceN (readM all st o) fun R => forceN (writeM st o) fun W => forceN (ancOf acc (preds o)) fun anc =>
    guard (okPairs anc R W acc && (preds o).all (fun y => Nat.blt y i)) (K (⟨i, anc, R, W⟩ :: acc) ⟨putD st.tmps o.dst (.tup []), st.heap, st.next + 1⟩)

def drawOps (E : Env) (call : Handler) (all : List Oper) : Nat → List Oper → List Info → St → (St → Prop) → Prop
  | _, [], _, st, K => K st
  | i, o :: r, acc, st, K => match o.guard with
    | none => drawOp E call all i acc st o (fun acc s => drawOps E call all (i + 1) r acc s K)
    | some (j, want) => match dstOf all j with
      | none => False
      | some d => match wordOf (getT st.tmps d) with
        | some (some t) => (match t with
          | true => (match want with
            | true => drawOp E call all i acc ⟨(d, .bool true) :: st.tmps, st.heap, st.next⟩ o (fun acc s => drawOps E call all (i + 1) r acc s K)
            | false => drawSkip all i acc ⟨(d, .bool true) :: st.tmps, st.heap, st.next⟩ o (fun acc s => drawOps E call all (i + 1) r acc s K))
          | false => (match want with
            | false => drawOp E call all i acc ⟨(d, .bool false) :: st.tmps, st.heap, st.next⟩ o (fun acc s => drawOps E call all (i + 1) r acc s K)
            | true => drawSkip all i acc ⟨(d, .bool false) :: st.tmps, st.heap, st.next⟩ o (fun acc s => drawOps E call all (i + 1) r acc s K)))
        | some none => drawSkip all i acc st o (fun acc s => drawOps E call all (i + 1) r acc s K)
        | none => False

inductive X where
  | normal | exit (id : Nat) | ret

def loopN : Nat → (St → (X → St → Prop) → Prop) → St → (X → St → Prop) → Prop
  | 0, _, _, _ => False
  | n + 1, body, st, K => body st (fun x s => match x with | .normal => loopN n body s K | .exit i => K (.exit i) s | .ret => K .ret s)

/-- What holds at a loop's head. -/
structure Ann where
  X : Type
  shape : St → X → St
  pre : St → X → Prop
  μ : X → Nat

/-- No name, but of fixed objects below a bound. -/
def simpleV (N : Nat) : V → Bool
  | .int .. | .bool _ | .str _ | .nilptr | .nilsl | .nilfn | .rptr .. | .rs .. | .ints .. | .any => true
  | .ptr n _ _ => Nat.blt n N
  | .sl n _ _ => Nat.blt n N
  | _ => false
def simple2 (N : Nat) : V → Bool
  | .clo _ a b => a.all (simpleV N) && b.all (simpleV N)
  | .agg l => l.all (simpleV N)
  | v => simpleV N v

def fitV (hs ht : Heap) (N : Nat) (v v' : V) : Prop :=
  match v' with
  | .any => True
  | .slw n' ver' => (match v with
    | .slw n ver => guard (Nat.beq n n' && Nat.blt n N) (match lk n hs with
      | some ⟨true, w, _⟩ => guard (Nat.beq w ver) (match lk n ht with | some ⟨true, w', _⟩ => guard (Nat.beq w' ver') True | _ => False)
      | _ => False)
    | _ => False)
  | v' => guard (simple2 N v') (v = v')

def fitT (hs : Heap) (t : St) (T : List (Nat × V)) : List (Nat × V) → Prop
  | [] => True
  | (n, v') :: r => fitV hs t.heap t.next (getT T n) v' ∧ fitT hs t T r

def fitE (e e' : Ent) (lo N : Nat) : Prop :=
  match e.grow with
  | true => guard (e'.grow && Nat.blt e'.ver N && flatO e'.o && (Nat.beq e.ver e'.ver || Nat.ble lo e'.ver)) (e.o = e'.o)
  | false => guard (!e'.grow && (match e'.o with | .agg l => simple2 N (.agg l) | .ints .. => true | _ => false)) (e.o = e'.o)

def fitH (hs : Heap) (lo N : Nat) : Heap → Prop
  | [] => True
  | (n, e') :: r => guard (Nat.blt n N) (match lk n hs with | some e => fitE e e' lo N | none => False) ∧ fitH hs lo N r

/-- One state is as good as another one, of which less is told. -/
def Fits (lo : Nat) (s t : St) : Prop := guard (Nat.ble lo t.next && Nat.ble t.next s.next) (fitH s.heap lo t.next t.heap ∧ fitT s.heap t s.tmps t.tmps)

/-- A block that is no loop may have an annotation too: what holds behind it. -/
def cutOf (ann : Nat → Option Ann) (id : Nat) : Code → Option Ann
  | .loop _ => none
  | _ => ann id

def exec (E : Env) (call draws : Handler) (fuel : Nat) (ann : Nat → Option Ann) (lo : Nat) : Nat → Code → St → (X → St → Prop) → Prop
  | _, .skip, st, K => K .normal st
  | _, .ret, st, K => K .ret st
  | _, .exit id, st, K => K (.exit id) st
  | _, .label _, st, K => K .normal st
  | _, .region _ ops d, st, K => match d with
    | true => drawOps E draws ops.toList 0 ops.toList [] st (fun s => K .normal s)
    | false => runOps E call ops.toList ops.toList st (fun s => K .normal s)
  | here, .scope c, st, K => exec E call draws fuel ann lo here c st K
  | here, .seq a b, st, K => exec E call draws fuel ann lo here a st (fun x s => match x with | .normal => exec E call draws fuel ann lo here b s K | .exit i => K (.exit i) s | .ret => K .ret s)
  | here, .cond c a b, st, K => match ev st.tmps c with
    | .bool t => (match t with
      | true => exec E call draws fuel ann lo here a st K
      | false => exec E call draws fuel ann lo here b st K)
    | _ => False
  | _, .block id c, st, K => match cutOf ann id c with
    | none => exec E call draws fuel ann lo id c st (fun x s => match x with | .exit id' => (bif Nat.beq id' id then K .normal s else K (.exit id') s) | .normal => K .normal s | .ret => K .ret s)
    | some A => exec E call draws fuel ann lo id c st (fun x s => match x with
        | .exit id' => (bif Nat.beq id' id then ∃ y, A.pre st y ∧ Fits lo s (A.shape st y) else K (.exit id') s)
        | .normal => ∃ y, A.pre st y ∧ Fits lo s (A.shape st y)
        | .ret => K .ret s) ∧ ∀ y, A.pre st y → K .normal (A.shape st y)
  | here, .loop c, st, K => match ann here with
    | none => loopN fuel (exec E call draws fuel ann lo here c) st K
    | some A => (∃ x, A.pre st x ∧ Fits lo st (A.shape st x)) ∧ ∀ x, A.pre st x → exec E call draws fuel ann lo here c (A.shape st x) (fun e s => match e with
      | .normal => ∃ x', A.pre st x' ∧ Fits lo s (A.shape st x') ∧ A.μ x' < A.μ x
      | .exit i => K (.exit i) s
      | .ret => K .ret s)
  | _, _, _, _ => False

def zipT : Nat → List V → List (Nat × V)
  | _, [] => []
  | n, v :: r => (n, v) :: zipT (n + 1) r

def resultsV (E : Env) (st : St) : List ResultVar → (List V → Prop) → Prop
  | [], K => K []
  | .tmp t :: r, K => resultsV E st r (fun l => K (getT st.tmps t :: l))
  | .cell a t :: r, K => match deref st.heap (getT st.tmps a) with
    | some p => (match E.td t with | some d => loadV d (getT st.tmps a) p (fun v => resultsV E st r (fun l => K (v :: l))) | none => False)
    | none => False

def oneOrTup : List V → V
  | [v] => v
  | l => .tup l

def runFn (E : Env) (call draws : Handler) (fuel : Nat) (ann : Nat → Option Ann) (fn : Func) (args : List V) (h : Heap) (nm : Nat) (K : CallK) : Prop :=
  match fn.body with
  | some c => exec E call draws fuel ann nm 0 c ⟨zipT 0 args, h, nm⟩ (fun x s => match x with
    | .exit _ => False
    | .normal => resultsV E s fn.results.toList (fun l => K (oneOrTup l) s.heap s.next)
    | .ret => resultsV E s fn.results.toList (fun l => K (oneOrTup l) s.heap s.next))
  | none => False

/-- Calls by their contracts. -/
def call0 (specs : List (Nat × Spec)) : Handler := fun f args h nm K =>
  match lk f specs with
  | some S => specCall S args h nm K
  | none => False
/-- .. or walked into. -/
def call1 (E : Env) (c draws : Handler) (fuel : Nat) (fns : List (Nat × (Func × (Nat → Option Ann)))) : Handler := fun f args h nm K =>
  match lk f fns with
  | some (fn, ann) => guard (Nat.ble args.length fn.ntmps) (runFn E c draws fuel ann fn args h nm K)
  | none => c f args h nm K
end Go.Sx


namespace Go.Sx

def _root_.Go.Value.one : Value → Bool
  | .agg _ | .tuple _ => false
  | _ => true

/-! ### What is only read -/
mutual
inductive DenR (hp : Array Obj) (ok : Nat → Prop) : V → Value → Prop
  | any (x : Value) : DenR hp ok .any x
  | int (k : IntKind) (n : Int) : DenR hp ok (.int k n) (.int k n)
  | bool (b : Bool) : DenR hp ok (.bool b) (.bool b)
  | str (s : ByteArray) : DenR hp ok (.str s) (.string s)
  | nilptr : DenR hp ok .nilptr (.pointer none)
  | nilsl : DenR hp ok .nilsl (.slice none 0 0)
  | nilfn : DenR hp ok .nilfn .nilFunc
  | rs (o : V) (b off cap : Nat) : ok b → ObjR hp ok o b off → lenO o ≤ cap → DenR hp ok (.rs false o) (.slice (some ⟨b, off, none⟩) (lenO o) cap)
  | rs0 (o : V) (ao : Option Addr) (cap : Nat) : lenO o = 0 → DenR hp ok (.rs false o) (.slice ao 0 cap)
  | rptr (o : V) (idx off b bo : Nat) : ok b → ObjR hp ok o b bo → DenR hp ok (.rptr false o idx off) (.pointer (some ⟨b, bo + (idx * strO o + off), none⟩))
  | ints (k : IntKind) (l : List Int) : DenR hp ok (.ints k l) (.agg (l.map (Value.int k)).toArray)
  | agg (l : List V) (vs : List Value) : l.length = vs.length → (∀ i (h' : i < vs.length), vs[i].one = true) → (∀ i (h : i < l.length) (h' : i < vs.length), DenR hp ok l[i] vs[i]) → DenR hp ok (.agg l) (.agg vs.toArray)
inductive ObjR (hp : Array Obj) (ok : Nat → Prop) : V → Nat → Nat → Prop
  | ints (k : IntKind) (l : List Int) (b bo : Nat) (c : Array Value) (T : TypeId) (fz : Nat × Nat) : hp[b]? = some (.cells c T fz) →
      (∀ i (h : i < l.length), c[bo + i]? = some (.int k l[i])) → ObjR hp ok (.ints k l) b bo
  | els (l : List El) (b bo : Nat) (c : Array Value) (T : TypeId) (fz : Nat × Nat) : hp[b]? = some (.cells c T fz) →
      (∀ i (h : i < l.length) j, j < 8 → c[bo + (i * 8 + j)]? = some (.int .u64 (l[i].toL.getD j 0))) → ObjR hp ok (.els l) b bo
  | pts (l : List Pt) (b bo : Nat) (c : Array Value) (T : TypeId) (fz : Nat × Nat) : hp[b]? = some (.cells c T fz) →
      (∀ i (h : i < l.length) j, j < 24 → c[bo + (i * 24 + j)]? = some (.int .u64 (l[i].toL.getD j 0))) → ObjR hp ok (.pts l) b bo
  | agg (l : List V) (b bo : Nat) (c : Array Value) (T : TypeId) (fz : Nat × Nat) (vs : Nat → Value) : hp[b]? = some (.cells c T fz) →
      (∀ i, i < l.length → c[bo + i]? = some (vs i)) → (∀ i, i < l.length → (vs i).one = true) → (∀ i (h : i < l.length), DenR hp ok l[i] (vs i)) → ObjR hp ok (.agg l) b bo
  | gen (n s : Nat) (f : Nat → List V) (b bo : Nat) (c : Array Value) (T : TypeId) (fz : Nat × Nat) (vs : Nat → Nat → Value) : hp[b]? = some (.cells c T fz) →
      (∀ i, i < n → (f i).length = s) →
      (∀ i, i < n → ∀ j, j < s → c[bo + (i * s + j)]? = some (vs i j)) → (∀ i, i < n → ∀ j, j < s → (vs i j).one = true) → (∀ i, i < n → ∀ j (h : j < (f i).length), DenR hp ok (f i)[j] (vs i j)) → ObjR hp ok (.gen n s f) b bo
end

mutual
theorem DenR.mono {hp hp' : Array Obj} {ok ok' : Nat → Prop} (H : ∀ b, ok b → ok' b ∧ hp'[b]? = hp[b]?) : ∀ {v : V} {x : Value}, DenR hp ok v x → DenR hp' ok' v x
  | _, _, .any x => .any x
  | _, _, .int k n => .int k n
  | _, _, .bool b => .bool b
  | _, _, .str s => .str s
  | _, _, .nilptr => .nilptr
  | _, _, .nilsl => .nilsl
  | _, _, .nilfn => .nilfn
  | _, _, .rs o b off cap hb ho hl => .rs o b off cap (H b hb).1 (ObjR.mono H ho hb) hl
  | _, _, .rs0 o ao cap h => .rs0 o ao cap h
  | _, _, .rptr o idx off b bo hb ho => .rptr o idx off b bo (H b hb).1 (ObjR.mono H ho hb)
  | _, _, .ints k l => .ints k l
  | _, _, .agg l vs hl h1 h => .agg l vs hl h1 (fun i h1 h2 => DenR.mono H (h i h1 h2))
theorem ObjR.mono {hp hp' : Array Obj} {ok ok' : Nat → Prop} (H : ∀ b, ok b → ok' b ∧ hp'[b]? = hp[b]?) : ∀ {o : V} {b bo : Nat}, ObjR hp ok o b bo → ok b → ObjR hp' ok' o b bo
  | _, _, _, .ints k l b bo c T fz hc h, hb => .ints k l b bo c T fz ((H b hb).2.trans hc) h
  | _, _, _, .els l b bo c T fz hc h, hb => .els l b bo c T fz ((H b hb).2.trans hc) h
  | _, _, _, .pts l b bo c T fz hc h, hb => .pts l b bo c T fz ((H b hb).2.trans hc) h
  | _, _, _, .agg l b bo c T fz vs hc h1 h2 h, hb => .agg l b bo c T fz vs ((H b hb).2.trans hc) h1 h2 (fun i hi => DenR.mono H (h i hi))
  | _, _, _, .gen n s f b bo c T fz vs hc hn h1 h2 h, hb => .gen n s f b bo c T fz vs ((H b hb).2.trans hc) hn h1 h2 (fun i hi j hj => DenR.mono H (h i hi j hj))
end

/-! ### A state's ghost -/
structure G where
  A : Nat → Prop
  H : Heap
  ρ : Nat → Nat
  bs : Nat → Nat
  base : Nat
  hp : Array Obj

def Ent.present (e : Ent) : Prop := e.grow = false ∨ 0 < lenO e.o
def G.owned (g : G) (b : Nat) : Prop := ∃ n e, lk n g.H = some e ∧ e.present ∧ g.ρ n = b
def G.ok (g : G) (lo b : Nat) : Prop := b < g.hp.size ∧ ¬ g.owned b ∧ lo ≤ b
def G.lo (g : G) (fr : Bool) : Nat := match fr with | true => g.base | false => 0

def SlwOK (b bs len s : Nat) (x : Value) : Prop :=
  ∃ ao cap, x = .slice ao len cap ∧ (len = 0 → cap = 0) ∧ (0 < len → ao = some ⟨b, 0, none⟩ ∧ len ≤ cap ∧ cap * s ≤ bs)

inductive Den (g : G) : V → Value → Prop
  | ro (v : V) (x : Value) : DenR g.hp (g.ok 0) v x → Den g v x
  | freshS (o : V) (x : Value) : DenR g.hp (g.ok g.base) (.rs false o) x → Den g (.rs true o) x
  | freshP (o : V) (i f : Nat) (x : Value) : DenR g.hp (g.ok g.base) (.rptr false o i f) x → Den g (.rptr true o i f) x
  | ptr (n off : Nat) (x : Value) : x.one = true → g.A n → (∀ e, lk n g.H = some e → e.grow = false → x = .pointer (some ⟨g.ρ n, off, none⟩)) → Den g (.ptr n 0 off) x
  | eptr (n ver idx off : Nat) (x : Value) : x.one = true → g.A n → g.A ver → (∀ e, lk n g.H = some e → e.grow = true → e.ver = ver → x = .pointer (some ⟨g.ρ n, idx * strO e.o + off, none⟩)) → Den g (.eptr n ver idx off) x
  | slw (n ver : Nat) (x : Value) : x.one = true → g.A n → g.A ver → (∀ e, lk n g.H = some e → e.grow = true → e.ver = ver → SlwOK (g.ρ n) (g.bs n) (lenO e.o) (strO e.o) x) → Den g (.slw n ver) x
  | sub (n ver lo len : Nat) (x : Value) : x.one = true → g.A n → g.A ver → (∀ e, lk n g.H = some e → e.grow = true → e.ver = ver → ∃ ao cap, x = .slice ao len cap ∧ len ≤ cap ∧ (0 < len → ao = some ⟨g.ρ n, lo * strO e.o, none⟩)) → Den g (.sub n ver lo len) x
  | sl (n off len : Nat) (x : Value) : x.one = true → g.A n → (∀ e, lk n g.H = some e → e.grow = false → ∃ ao cap, x = .slice ao len cap ∧ len ≤ cap ∧ (0 < len → ao = some ⟨g.ρ n, off, none⟩)) → Den g (.sl n off len) x
  | clo (f : FuncId) (a b : List V) (xs ys : List Value) : a.length = xs.length → b.length = ys.length → (∀ i (h : i < a.length) (h' : i < xs.length), Den g a[i] xs[i]) → (∀ i (h : i < b.length) (h' : i < ys.length), Den g b[i] ys[i]) →
      Den g (.clo f a b) (.func (.func f) xs.toArray ys.toArray)
  | agg (l : List V) (vs : List Value) : l.length = vs.length → (∀ i (h' : i < vs.length), vs[i].one = true) → (∀ i (h : i < l.length) (h' : i < vs.length), Den g l[i] vs[i]) → Den g (.agg l) (.agg vs.toArray)
  | tup (l : List V) (vs : List Value) : l.length = vs.length → (∀ i (h : i < l.length) (h' : i < vs.length), Den g l[i] vs[i]) → Den g (.tup l) (.tuple vs.toArray)

/-- What may turn between two states, so that values stay what they were. -/
structure G.le (g g' : G) : Prop where
  A : ∀ n, g.A n → g'.A n
  base : g'.base = g.base
  fixed : ∀ n, g.A n → ∀ e', lk n g'.H = some e' → e'.grow = false → ∃ e, lk n g.H = some e ∧ e.grow = false ∧ g'.ρ n = g.ρ n
  grow : ∀ n, g.A n → ∀ e', lk n g'.H = some e' → e'.grow = true → g.A e'.ver → ∃ e, lk n g.H = some e ∧ e.grow = true ∧ e.ver = e'.ver ∧ g'.ρ n = g.ρ n ∧ g'.bs n = g.bs n ∧ lenO e'.o = lenO e.o ∧ strO e'.o = strO e.o
  ok : ∀ b, b < g.hp.size → ¬ g.owned b → b < g'.hp.size ∧ ¬ g'.owned b ∧ g'.hp[b]? = g.hp[b]?

theorem G.le.okR {g g' : G} (h : g.le g') {lo lo' : Nat} (hl : lo' ≤ lo) (b : Nat) (hb : g.ok lo b) : g'.ok lo' b ∧ g'.hp[b]? = g.hp[b]? := by
  obtain ⟨h1, h2, h3⟩ := hb
  obtain ⟨k1, k2, k3⟩ := h.ok b h1 h2
  exact ⟨⟨k1, k2, Nat.le_trans hl h3⟩, k3⟩

theorem Den.mono {g g' : G} (L : g.le g') {v : V} {x : Value} (h : Den g v x) : Den g' v x := by
  induction h with
  | ro v x h => exact .ro v x (h.mono (L.okR (Nat.le_refl _)))
  | freshS o x h => exact .freshS o x (h.mono (L.okR (Nat.le_of_eq L.base)))
  | freshP o i f x h => exact .freshP o i f x (h.mono (L.okR (Nat.le_of_eq L.base)))
  | ptr n off x h1 hA h =>
    refine .ptr n off x h1 (L.A _ hA) fun e' he hg => ?_
    obtain ⟨e, k1, k2, k3⟩ := L.fixed n hA e' he hg
    rw [k3]; exact h e k1 k2
  | eptr n ver idx off x h1 hA hv h =>
    refine .eptr n ver idx off x h1 (L.A _ hA) (L.A _ hv) fun e' he hg hver => ?_
    obtain ⟨e, k1, k2, k3, k4, k5, k6, k7⟩ := L.grow n hA e' he hg (hver ▸ hv)
    rw [k4, k7]; exact h e k1 k2 (k3.trans hver)
  | slw n ver x h1 hA hv h =>
    refine .slw n ver x h1 (L.A _ hA) (L.A _ hv) fun e' he hg hver => ?_
    obtain ⟨e, k1, k2, k3, k4, k5, k6, k7⟩ := L.grow n hA e' he hg (hver ▸ hv)
    rw [k4, k5, k6, k7]; exact h e k1 k2 (k3.trans hver)
  | sub n ver lo len x h1 hA hv h =>
    refine .sub n ver lo len x h1 (L.A _ hA) (L.A _ hv) fun e' he hg hver => ?_
    obtain ⟨e, k1, k2, k3, k4, k5, k6, k7⟩ := L.grow n hA e' he hg (hver ▸ hv)
    rw [k4, k7]; exact h e k1 k2 (k3.trans hver)
  | sl n off len x h1 hA h =>
    refine .sl n off len x h1 (L.A _ hA) fun e' he hg => ?_
    obtain ⟨e, k1, k2, k3⟩ := L.fixed n hA e' he hg
    rw [k3]; exact h e k1 k2
  | clo f a b xs ys h1 h2 _ _ i1 i2 => exact .clo f a b xs ys h1 h2 i1 i2
  | agg l vs h1 h2 _ i1 => exact .agg l vs h1 h2 i1
  | tup l vs h1 _ i1 => exact .tup l vs h1 i1

/-- What a named object's block holds. -/
def ObjD (g : G) (o : V) (c : Array Value) : Prop :=
  match o with
  | .ints k l => ∀ i (h : i < l.length), c[i]? = some (.int k l[i])
  | .els l => ∀ i (h : i < l.length) j, j < 8 → c[i * 8 + j]? = some (.int .u64 (l[i].toL.getD j 0))
  | .pts l => ∀ i (h : i < l.length) j, j < 24 → c[i * 24 + j]? = some (.int .u64 (l[i].toL.getD j 0))
  | .agg l => ∀ i (h : i < l.length), ∃ x, c[i]? = some x ∧ x.one = true ∧ Den g l[i] x
  | _ => False

structure HeapOK (g : G) : Prop where
  basele : g.base ≤ g.hp.size
  names : ∀ n e, lk n g.H = some e → g.A n ∧ (e.grow = true → g.A e.ver)
  objs : ∀ n e, lk n g.H = some e → e.present → g.base ≤ g.ρ n ∧ ∃ c T, g.hp[g.ρ n]? = some (.cells c T (0, 0)) ∧ c.size = g.bs n ∧ ObjD g e.o c
  inj : ∀ n m e e', lk n g.H = some e → lk m g.H = some e' → e.present → e'.present → g.ρ n = g.ρ m → n = m

theorem ObjD.mono {g g' : G} (L : g.le g') {o : V} {c : Array Value} (h : ObjD g o c) : ObjD g' o c := by
  cases o <;> simp only [ObjD] at h ⊢ <;> try exact h
  rename_i l
  exact fun i hi => let ⟨x, a, b, d⟩ := h i hi; ⟨x, a, b, d.mono L⟩

theorem HeapOK.lt {g : G} (h : HeapOK g) {n : Nat} {e : Ent} (he : lk n g.H = some e) (hp : e.present) : g.ρ n < g.hp.size := by
  obtain ⟨_, c, T, hc, _⟩ := h.objs n e he hp
  exact (Array.getElem?_eq_some_iff.1 hc).1

end Go.Sx

namespace Go.Sx

/-! ### Runs -/
section runs
variable {P : Program} {α β : Type}

theorem run_bind (x : Sem α) (f : α → Sem β) (w : World) : (x >>= f).run P w = match x.run P w with | .ok a w' => (f a).run P w' | .halt h w' => .halt h w' := by
  show (Sem.bind x f).run P w = _
  induction x generalizing w with
  | pure a => simp [Sem.bind, Sem.run]
  | load m a k ih =>
    simp only [Sem.bind, Sem.run]
    (repeat' split) <;> simp_all
  | store m a v k ih =>
    cases v <;> simp only [Sem.bind, Sem.run] <;> (repeat' split) <;> simp_all
  | new o k ih => simp [Sem.bind, Sem.run, ih]
  | shape r k ih => simp [Sem.bind, Sem.run, ih]
  | freeze a n k ih => simp [Sem.bind, Sem.run, ih]
  | frozen a k ih => simp [Sem.bind, Sem.run, ih]
  | getObj r k ih =>
    simp only [Sem.bind, Sem.run]
    (repeat' split) <;> simp_all
  | setObj r o k ih =>
    simp only [Sem.bind, Sem.run]
    (repeat' split) <;> simp_all
  | choose q k ih =>
    simp only [Sem.bind, Sem.run]
    (repeat' split) <;> simp_all
  | sys c k ih => simp [Sem.bind, Sem.run, ih]
  | program k ih => simp [Sem.bind, Sem.run, ih]
  | mark m k ih => simp [Sem.bind, Sem.run, ih]
  | halt h => simp [Sem.bind, Sem.run]

instance : LawfulMonad Sem := LawfulMonad.mk' (m := Sem)
  (id_map := fun x => by
    show Sem.bind x (fun a => Sem.pure (id a)) = x
    induction x <;> first | (simp_all [Sem.bind]; done) | (rename_i ih; simp only [Sem.bind]; congr 1; funext b; exact ih b))
  (pure_bind := fun _ _ => rfl)
  (bind_assoc := fun x f h => by
    show Sem.bind (Sem.bind x f) h = Sem.bind x (fun a => Sem.bind (f a) h)
    induction x <;> first | (simp_all [Sem.bind]; done) | (rename_i ih; simp only [Sem.bind]; congr 1; funext b; exact ih b))

theorem run_pure (a : α) (w : World) : (pure a : Sem α).run P w = .ok a w := rfl

theorem run_underlying {t : TypeId} {d : TypeDesc} (h : P.underlying t = some d) (w : World) : (underlying t).run P w = .ok d w := by
  unfold underlying; rw [run_bind]; show (match Sem.run P program w with | _ => _) = _
  simp only [program, h]; rfl

theorem run_typeInfo {t : TypeId} {i : TypeInfo} (h : P.info? t = some i) (w : World) : (typeInfo t).run P w = .ok i w := by
  unfold typeInfo; rw [run_bind]; simp only [program, Sem.run]
  have h' : P.toTables.info? t = some i := h
  simp only [h']; rfl

theorem run_sizeOf {t : TypeId} {i : TypeInfo} (h : P.info? t = some i) (w : World) : (sizeOf t).run P w = .ok i.size w := by
  unfold sizeOf; rw [run_bind, run_typeInfo h]; rfl

theorem run_zeroValue {t : TypeId} {i : TypeInfo} {z : Value} (h : P.info? t = some i) (hz : i.zero = some z) (w : World) : (zeroValue t).run P w = .ok z w := by
  unfold zeroValue; rw [run_bind, run_typeInfo h]; simp only [hz]; rfl

def isAggD : TypeDesc → Bool
  | .struct _ | .array _ _ => true
  | _ => false
theorem run_isAgg {t : TypeId} {d : TypeDesc} (h : P.underlying t = some d) (w : World) : (isAgg t).run P w = .ok (isAggD d) w := by
  unfold isAgg; rw [run_bind, run_underlying h]; cases d <;> rfl

theorem run_new (o : Obj) (w : World) : (newObj o).run P w = .ok w.heap.size { w with heap := w.heap.push o } := rfl

theorem run_newVar (t : TypeId) (v : Value) (w : World) : (newVar t v).run P w = .ok ⟨w.heap.size, 0, none⟩ { w with heap := w.heap.push (.cells v.cells t) } := by
  unfold newVar newRow; rw [run_bind, run_new]; rfl
theorem run_newRow (t : TypeId) (c : Array Value) (w : World) : (newRow t c).run P w = .ok ⟨w.heap.size, 0, none⟩ { w with heap := w.heap.push (.cells c t) } := by
  unfold newRow; rw [run_bind, run_new]; rfl

theorem add_none (b off n : Nat) : (⟨b, off, none⟩ : Addr).add n = ⟨b, off + n, none⟩ := by
  unfold Addr.add; split
  · subst_vars; rfl
  · rfl

theorem cell_at {w : World} {b off : Nat} {c : Array Value} {T : TypeId} {fz : Nat × Nat} (h : w.heap[b]? = some (.cells c T fz)) : w.cell? ⟨b, off, none⟩ = c[off]? := by
  simp [World.cell?, h]

theorem run_load {w : World} {a : Addr} {v : Value} (h : w.cell? a = some v) : (load a).run P w = .ok v w := by
  simp [load, Sem.run, h]

theorem run_loadCellsFrom {w : World} {b off : Nat} : ∀ (L : List Value) (i : Nat) (acc : Array Value), (∀ j (h : j < L.length), w.cell? ⟨b, off + (i + j), none⟩ = some L[j]) →
    (loadCellsFrom ⟨b, off, none⟩ i L.length acc).run P w = .ok (acc ++ L.toArray) w := by
  intro L
  induction L with
  | nil => intro i acc _; simp [loadCellsFrom, run_pure]
  | cons x r ih =>
    intro i acc h
    have h0 := h 0 (by simp)
    simp only [List.length_cons, loadCellsFrom]
    rw [run_bind, add_none, run_load (by simpa using h0)]
    simp only []
    rw [ih (i + 1) (acc.push x) (fun j hj => by have := h (j + 1) (by simp; omega); simpa [Nat.add_assoc, Nat.add_comm 1 j] using this)]
    simp

theorem run_loadCells {w : World} {b off : Nat} (L : List Value) (h : ∀ j (h : j < L.length), w.cell? ⟨b, off + j, none⟩ = some L[j]) :
    (loadCells ⟨b, off, none⟩ L.length).run P w = .ok L.toArray w := by
  unfold loadCells
  rw [run_loadCellsFrom L 0 #[] (fun j hj => by simpa using h j hj)]
  simp

theorem run_loadVar_cell {w : World} {t : TypeId} {d : TypeDesc} {a : Addr} {v : Value} (hd : P.underlying t = some d) (ha : isAggD d = false) (h : w.cell? a = some v) :
    (loadVar t a).run P w = .ok v w := by
  unfold loadVar; rw [run_bind, run_isAgg hd]; simp only [ha]; exact run_load h

theorem run_loadVar_agg {w : World} {t : TypeId} {d : TypeDesc} {i : TypeInfo} {b off : Nat} (L : List Value) (hd : P.underlying t = some d) (ha : isAggD d = true) (hi : P.info? t = some i) (hs : i.size = L.length)
    (h : ∀ j (h : j < L.length), w.cell? ⟨b, off + j, none⟩ = some L[j]) : (loadVar t ⟨b, off, none⟩).run P w = .ok (.agg L.toArray) w := by
  unfold loadVar; rw [run_bind, run_isAgg hd]; simp only [ha, if_true]
  rw [run_bind, run_sizeOf hi]; simp only [hs]
  rw [run_bind, run_loadCells L h]; rfl

end runs

/-! ### What stands behind an abstract value -/
section inv
variable {g : G} {x : Value}

theorem den_int {k n} (h : Den g (.int k n) x) : x = .int k n := by cases h with | ro _ _ h => cases h; rfl
theorem den_bool {b} (h : Den g (.bool b) x) : x = .bool b := by cases h with | ro _ _ h => cases h; rfl
theorem den_str {b} (h : Den g (.str b) x) : x = .string b := by cases h with | ro _ _ h => cases h; rfl
theorem den_nilptr (h : Den g .nilptr x) : x = .pointer none := by cases h with | ro _ _ h => cases h; rfl
theorem den_nilsl (h : Den g .nilsl x) : x = .slice none 0 0 := by cases h with | ro _ _ h => cases h; rfl
theorem den_nilfn (h : Den g .nilfn x) : x = .nilFunc := by cases h with | ro _ _ h => cases h; rfl
theorem den_ints {k l} (h : Den g (.ints k l) x) : x = .agg (l.map (Value.int k)).toArray := by cases h with | ro _ _ h => cases h; rfl
theorem Den.mkInt (k n) : Den g (.int k n) (.int k n) := .ro _ _ (.int k n)
theorem Den.mkBool (b) : Den g (.bool b) (.bool b) := .ro _ _ (.bool b)
theorem Den.mkInts (k l) : Den g (.ints k l) (.agg (l.map (Value.int k)).toArray) := .ro _ _ (.ints k l)
theorem Den.mkAny (x) : Den g .any x := .ro _ _ (.any x)

theorem den_ptr {n i f} (h : Den g (.ptr n i f) x) : i = 0 ∧ g.A n ∧ ∀ e, lk n g.H = some e → e.grow = false → x = .pointer (some ⟨g.ρ n, f, none⟩) := by
  cases h with
  | ro _ _ h => cases h
  | ptr _ _ _ _ hA h => exact ⟨rfl, hA, h⟩
theorem den_eptr {n v i f} (h : Den g (.eptr n v i f) x) : g.A n ∧ g.A v ∧ ∀ e, lk n g.H = some e → e.grow = true → e.ver = v → x = .pointer (some ⟨g.ρ n, i * strO e.o + f, none⟩) := by
  cases h with
  | ro _ _ h => cases h
  | eptr _ _ _ _ _ _ h1 h2 h => exact ⟨h1, h2, h⟩
theorem den_slw {n v} (h : Den g (.slw n v) x) : g.A n ∧ g.A v ∧ ∀ e, lk n g.H = some e → e.grow = true → e.ver = v → SlwOK (g.ρ n) (g.bs n) (lenO e.o) (strO e.o) x := by
  cases h with
  | ro _ _ h => cases h
  | slw _ _ _ _ h1 h2 h => exact ⟨h1, h2, h⟩
theorem den_sub {n v lo len} (h : Den g (.sub n v lo len) x) : g.A n ∧ g.A v ∧ ∀ e, lk n g.H = some e → e.grow = true → e.ver = v → ∃ ao cap, x = .slice ao len cap ∧ len ≤ cap ∧ (0 < len → ao = some ⟨g.ρ n, lo * strO e.o, none⟩) := by
  cases h with
  | ro _ _ h => cases h
  | sub _ _ _ _ _ _ h1 h2 h => exact ⟨h1, h2, h⟩
theorem den_sl {n o len} (h : Den g (.sl n o len) x) : g.A n ∧ ∀ e, lk n g.H = some e → e.grow = false → ∃ ao cap, x = .slice ao len cap ∧ len ≤ cap ∧ (0 < len → ao = some ⟨g.ρ n, o, none⟩) := by
  cases h with
  | ro _ _ h => cases h
  | sl _ _ _ _ _ h1 h => exact ⟨h1, h⟩
theorem den_rs {fr o} (h : Den g (.rs fr o) x) : DenR g.hp (g.ok (g.lo fr)) (.rs false o) x := by
  cases h with
  | ro _ _ h => cases h with
    | rs o b off cap hb ho hl => exact .rs o b off cap hb ho hl
    | rs0 o ao cap h => exact .rs0 o ao cap h
  | freshS _ _ h => exact h
theorem den_rptr {fr o i f} (h : Den g (.rptr fr o i f) x) : DenR g.hp (g.ok (g.lo fr)) (.rptr false o i f) x := by
  cases h with
  | ro _ _ h => cases h with
    | rptr o i f b bo hb ho => exact .rptr o i f b bo hb ho
  | freshP _ _ _ _ h => exact h
theorem Den.mkRs {fr o} (h : DenR g.hp (g.ok (g.lo fr)) (.rs false o) x) : Den g (.rs fr o) x := by
  cases fr
  · exact .ro _ _ h
  · exact .freshS _ _ h
theorem Den.mkRptr {fr o i f} (h : DenR g.hp (g.ok (g.lo fr)) (.rptr false o i f) x) : Den g (.rptr fr o i f) x := by
  cases fr
  · exact .ro _ _ h
  · exact .freshP _ _ _ _ h
theorem den_tup {l} (h : Den g (.tup l) x) : ∃ vs : List Value, x = .tuple vs.toArray ∧ l.length = vs.length ∧ ∀ i (h : i < l.length) (h' : i < vs.length), Den g l[i] vs[i] := by
  cases h with
  | ro _ _ h => cases h
  | tup _ vs h1 h => exact ⟨vs, rfl, h1, h⟩
theorem den_clo {f a b} (h : Den g (.clo f a b) x) : ∃ xs ys : List Value, x = .func (.func f) xs.toArray ys.toArray ∧ a.length = xs.length ∧ b.length = ys.length ∧
    (∀ i (h : i < a.length) (h' : i < xs.length), Den g a[i] xs[i]) ∧ (∀ i (h : i < b.length) (h' : i < ys.length), Den g b[i] ys[i]) := by
  cases h with
  | ro _ _ h => cases h
  | clo _ _ _ xs ys h1 h2 h3 h4 => exact ⟨xs, ys, rfl, h1, h2, h3, h4⟩

theorem okMono {lo lo' : Nat} (h : lo' ≤ lo) {g : G} (b : Nat) (hb : g.ok lo b) : g.ok lo' b ∧ g.hp[b]? = g.hp[b]? := ⟨⟨hb.1, hb.2.1, Nat.le_trans h hb.2.2⟩, rfl⟩

theorem den_agg {l} (h : Den g (.agg l) x) : ∃ vs : List Value, x = .agg vs.toArray ∧ l.length = vs.length ∧ (∀ i (h' : i < vs.length), vs[i].one = true) ∧
    ∀ i (h : i < l.length) (h' : i < vs.length), Den g l[i] vs[i] := by
  cases h with
  | ro _ _ h => cases h with | agg _ vs h1 h2 h3 => exact ⟨vs, rfl, h1, h2, fun i a b => .ro _ _ (h3 i a b)⟩
  | agg _ vs h1 h2 h3 => exact ⟨vs, rfl, h1, h2, h3⟩
end inv
end Go.Sx

namespace Go.Sx

theorem guard_iff {b : Bool} {p : Prop} : guard b p ↔ b = true ∧ p := by cases b <;> simp [guard]

/-- What an object's cells are. -/
def Cont (D : V → Value → Prop) (o : V) (get : Nat → Option Value) : Prop :=
  match o with
  | .ints k l => ∀ i (h : i < l.length), get i = some (.int k l[i])
  | .els l => ∀ i (h : i < l.length) j, j < 8 → get (i * 8 + j) = some (.int .u64 (l[i].toL.getD j 0))
  | .pts l => ∀ i (h : i < l.length) j, j < 24 → get (i * 24 + j) = some (.int .u64 (l[i].toL.getD j 0))
  | .agg l => ∀ i (h : i < l.length), ∃ x, get i = some x ∧ x.one = true ∧ D l[i] x
  | .gen n s f => (∀ i, i < n → (f i).length = s) ∧ ∀ i, i < n → ∀ j (h : j < (f i).length), ∃ x, get (i * s + j) = some x ∧ x.one = true ∧ D (f i)[j] x
  | _ => False

theorem Cont.ofR {hp : Array Obj} {ok : Nat → Prop} {o : V} {b bo : Nat} {w : World} (hw : w.heap = hp) (h : ObjR hp ok o b bo) : Cont (DenR hp ok) o (fun i => w.cell? ⟨b, bo + i, none⟩) := by
  subst hw
  cases h with
  | ints k l _ _ c T fz hc h => intro i hi; simp only []; rw [cell_at hc]; exact h i hi
  | els l _ _ c T fz hc h => intro i hi j hj; simp only []; rw [cell_at hc]; exact h i hi j hj
  | pts l _ _ c T fz hc h => intro i hi j hj; simp only []; rw [cell_at hc]; exact h i hi j hj
  | agg l _ _ c T fz vs hc h1 h2 h3 => intro i hi; exact ⟨vs i, by simp only []; rw [cell_at hc]; exact h1 i hi, h2 i hi, h3 i hi⟩
  | gen n s f _ _ c T fz vs hc hn h1 h2 h3 =>
    refine ⟨hn, fun i hi j hj => ⟨vs i j, ?_, h2 i hi j (by rw [← hn i hi]; exact hj), h3 i hi j hj⟩⟩
    simp only []; rw [cell_at hc]; exact h1 i hi j (by rw [← hn i hi]; exact hj)

theorem Cont.ofD {g : G} {o : V} {c : Array Value} {b : Nat} {w : World} {T : TypeId} {fz : Nat × Nat} (hc : w.heap[b]? = some (.cells c T fz)) (h : ObjD g o c) : Cont (Den g) o (fun i => w.cell? ⟨b, 0 + i, none⟩) := by
  cases o <;> simp only [ObjD] at h <;> try exact h.elim
  · intro i hi; simp only []; rw [cell_at hc, Nat.zero_add]; exact h i hi
  · intro i hi; obtain ⟨x, h1, h2, h3⟩ := h i hi; exact ⟨x, by simp only []; rw [cell_at hc, Nat.zero_add]; exact h1, h2, h3⟩
  · intro i hi j hj; simp only []; rw [cell_at hc, Nat.zero_add]; exact h i hi j hj
  · intro i hi j hj; simp only []; rw [cell_at hc, Nat.zero_add]; exact h i hi j hj

/-- A pointer's target. -/
theorem deref_sound {g : G} (HO : HeapOK g) {w : World} (hw : w.heap = g.hp) {v : V} {x : Value} {o : V} {idx off : Nat} (hd : Den g v x) (h : deref g.H v = some (o, idx, off)) (hl : 0 < lenO o) :
    ∃ b bo D, x = .pointer (some ⟨b, bo + (idx * strO o + off), none⟩) ∧ Cont D o (fun i => w.cell? ⟨b, bo + i, none⟩) ∧ ∀ U y, D U y → Den g (fixc v U) y := by
  cases v <;> simp only [deref] at h <;> try (cases h; done)
  · -- ptr
    rename_i n i f
    split at h
    · rename_i ver o' he
      obtain ⟨rfl, hA, hx⟩ := den_ptr hd
      simp only [Nat.beq, cond_true, Option.some.injEq, Prod.mk.injEq] at h
      obtain ⟨rfl, rfl, rfl⟩ := h
      obtain ⟨_, c, T, hc, _, hob⟩ := HO.objs n _ he (.inl rfl)
      rw [← hw] at hc
      refine ⟨g.ρ n, 0, Den g, ?_, Cont.ofD hc hob, fun U y h => h⟩
      rw [hx _ he rfl]; simp
    · simp at h
  · -- eptr
    rename_i n ver i f
    split at h
    · rename_i ver' o' he
      cases hv : Nat.beq ver ver' <;> simp [hv] at h
      obtain ⟨rfl, rfl, rfl⟩ := h
      obtain ⟨hA, hA', hx⟩ := den_eptr hd
      have hv' : ver = ver' := Nat.eq_of_beq_eq_true hv
      obtain ⟨_, c, T, hc, _, hob⟩ := HO.objs n _ he (.inr hl)
      rw [← hw] at hc
      refine ⟨g.ρ n, 0, Den g, ?_, Cont.ofD hc hob, fun U y h => h⟩
      rw [hx _ he rfl hv'.symm]; simp
    · simp at h
  · -- rptr
    rename_i fr o' i f
    simp at h
    obtain ⟨rfl, rfl, rfl⟩ := h
    have hr := den_rptr hd
    cases hr with
    | rptr _ _ _ b bo hb ho =>
      refine ⟨b, bo, _, rfl, Cont.ofR hw ho, fun U y hVy => ?_⟩
      have base : ∀ {U' : V}, DenR g.hp (g.ok (g.lo fr)) U' y → Den g U' y := fun {U'} h => .ro _ _ (h.mono (fun b hb => okMono (Nat.zero_le _) b hb))
      simp only [fixc]
      cases U <;> simp only [fix1] <;> try exact base hVy
      · cases hVy with
        | rptr o i f b bo hb ho => exact Den.mkRptr (.rptr _ _ _ _ _ hb ho)
      · cases hVy with
        | rs o b off cap hb ho hl => exact Den.mkRs (.rs _ _ _ _ hb ho hl)
        | rs0 o ao cap h => exact Den.mkRs (.rs0 _ _ _ h)

theorem cellAt_sound {D : V → Value → Prop} {g : G} {o : V} {get : Nat → Option Value} (hC : Cont D o get) (c : V) (hD : ∀ U y, D U y → Den g (fixc c U) y) {idx off : Nat} {K : V → Prop} (h : cellAt o idx off (fun v => K (fixc c v))) :
    0 < lenO o ∧ ∃ U y, K U ∧ get (idx * strO o + off) = some y ∧ y.one = true ∧ Den g U y := by
  cases o <;> simp only [cellAt] at h <;> try exact h.elim
  · rename_i k l
    obtain ⟨h1, hK⟩ := guard_iff.1 h
    simp only [Bool.and_eq_true] at h1
    have hi : idx = 0 := Nat.eq_of_beq_eq_true h1.1
    have hlt : off < l.length := by have := h1.2; simp [Nat.blt] at this; omega
    subst hi
    refine ⟨by simp only [lenO]; omega, _, .int k l[off], hK, by simpa [strO] using hC off hlt, rfl, ?_⟩
    have : l.getD off 0 = l[off] := by simp [List.getD_eq_getElem?_getD, hlt]
    rw [this]
    cases c <;> exact Den.mkInt _ _
  · rename_i l
    obtain ⟨h1, hK⟩ := guard_iff.1 h
    have hi : idx = 0 := Nat.eq_of_beq_eq_true h1
    subst hi
    split at hK
    · rename_i v hv
      obtain ⟨hlt, rfl⟩ := List.getElem?_eq_some_iff.1 hv
      obtain ⟨x, hx, h1, hd⟩ := hC off hlt
      exact ⟨by simp only [lenO]; omega, _, x, hK, by simpa [strO] using hx, h1, hD _ _ hd⟩
    · exact hK.elim
  · rename_i n s f
    obtain ⟨h1, hK⟩ := guard_iff.1 h
    simp only [Bool.and_eq_true] at h1
    have hi : idx < n := by have := h1.1; simp [Nat.blt] at this; omega
    split at hK
    · rename_i v hv
      obtain ⟨hlt, rfl⟩ := List.getElem?_eq_some_iff.1 hv
      obtain ⟨x, hx, h1, hd⟩ := hC.2 idx hi off hlt
      exact ⟨by simp only [lenO]; omega, _, x, hK, hx, h1, hD _ _ hd⟩
    · exact hK.elim

theorem blt_lt {a b : Nat} (h : Nat.blt a b = true) : a < b := by simp [Nat.blt] at h; omega
theorem ble_le {a b : Nat} (h : Nat.ble a b = true) : a ≤ b := by simpa using h

theorem toL8 (e : El) : e.toL.length = 8 := rfl
theorem toL24 (e : Pt) : e.toL.length = 24 := rfl

/-- Cells of integers, as an aggregate. -/
theorem ints_cells {get : Nat → Option Value} {k : IntKind} {l : List Int} {off n : Nat} (hle : off + n ≤ l.length) (h : ∀ i (h : i < l.length), get i = some (.int k l[i])) :
    ∀ j (hj : j < (((l.drop off).take n).map (Value.int k)).length), get (off + j) = some (((l.drop off).take n).map (Value.int k))[j] := by
  intro j hj
  have hj' : j < n := by simp at hj; omega
  rw [h (off + j) (by omega)]
  simp

theorem partAt_sound {D : V → Value → Prop} {g : G} {o : V} {get : Nat → Option Value} (hC : Cont D o get) (c : V) (hD : ∀ U y, D U y → Den g (fixc c U) y) {idx off n : Nat} {K : V → Prop} (hn : 0 < n) (h : partAt o idx off n (fun v => K (fixA c v))) :
    0 < lenO o ∧ ∃ U, ∃ L : List Value, K U ∧ L.length = n ∧ (∀ j (hj : j < L.length), get (idx * strO o + off + j) = some L[j]) ∧ Den g U (.agg L.toArray) := by
  have fints : ∀ k m, fixA c (.ints k m) = .ints k m := fun k m => by cases c <;> rfl
  cases o <;> simp only [partAt] at h <;> try exact h.elim
  · rename_i k l
    obtain ⟨h1, hK⟩ := guard_iff.1 h
    simp only [Bool.and_eq_true] at h1
    have hi : idx = 0 := Nat.eq_of_beq_eq_true h1.1
    have hle := ble_le h1.2
    subst hi
    rw [fints] at hK
    refine ⟨by simp only [lenO]; omega, _, ((l.drop off).take n).map (Value.int k), hK, by simp; omega, ?_, Den.mkInts _ _⟩
    intro j hj
    simp only [strO, Nat.zero_mul, Nat.zero_add]
    exact ints_cells hle hC j hj
  · rename_i l
    obtain ⟨h1, hK⟩ := guard_iff.1 h
    simp only [Bool.and_eq_true] at h1
    have hi : idx = 0 := Nat.eq_of_beq_eq_true h1.1
    have hle := ble_le h1.2
    subst hi
    have hx : ∀ i, ∃ x, ∀ (hi : i < l.length), get i = some x ∧ x.one = true ∧ D l[i] x := fun i => by
      by_cases hi : i < l.length
      · obtain ⟨x, hx⟩ := hC i hi; exact ⟨x, fun _ => hx⟩
      · exact ⟨.nilFunc, fun h => absurd h hi⟩
    let vs := fun i => Classical.choose (hx i)
    have hvs : ∀ i (hi : i < l.length), get i = some (vs i) ∧ (vs i).one = true ∧ D l[i] (vs i) := fun i => Classical.choose_spec (hx i)
    refine ⟨by simp only [lenO]; omega, _, (List.range n).map (fun j => vs (off + j)), hK, by simp, ?_, ?_⟩
    · intro j hj
      have hj' : j < n := by simpa using hj
      simp only [strO, Nat.zero_mul, Nat.zero_add]
      rw [(hvs (off + j) (by omega)).1]; simp
    · have key : ∀ j (h : j < ((l.drop off).take n).length), Den g (fixc c ((l.drop off).take n)[j]) (vs (off + j)) := by
        intro j hj
        have hj' : j < n := by simp at hj; omega
        have : ((l.drop off).take n)[j] = l[off + j] := by simp
        rw [this]; exact hD _ _ (hvs (off + j) (by omega)).2.2
      have hone : ∀ i (h' : i < ((List.range n).map (fun j => vs (off + j))).length), (((List.range n).map (fun j => vs (off + j))))[i].one = true := by
        intro i hi
        have hi' : i < n := by simpa using hi
        simpa using (hvs (off + i) (by omega)).2.1
      have plain : fixA c (.agg ((l.drop off).take n)) = .agg (((l.drop off).take n).map (fixc c)) := by
        cases c <;> simp only [fixA] <;> first
          | (congr 1; exact (List.map_id'' (fun x => rfl) _).symm)
          | rfl
      rw [plain]
      refine .agg _ _ (by simp; omega) hone ?_
      intro i h1 h2
      have := key i (by simpa using h1)
      simpa using this
  · rename_i l
    obtain ⟨h1, hK⟩ := guard_iff.1 h
    simp only [Bool.and_eq_true] at h1
    have hi := blt_lt h1.1
    have hle := ble_le h1.2
    have hg : l.getD idx default = l[idx] := by simp [List.getD_eq_getElem?_getD, hi]
    rw [fints, hg] at hK
    refine ⟨by simp only [lenO]; omega, _, (((l[idx].toL).drop off).take n).map (Value.int .u64), hK, by simp [toL8]; omega, ?_, Den.mkInts _ _⟩
    intro j hj
    have hj' : j < n := by simp at hj; omega
    have := hC idx hi (off + j) (by omega)
    simp only [strO, Nat.add_assoc]
    rw [this]; simp [List.getD_eq_getElem?_getD]; rw [List.getElem?_eq_getElem (by rw [toL8]; omega)]; rfl
  · rename_i l
    obtain ⟨h1, hK⟩ := guard_iff.1 h
    simp only [Bool.and_eq_true] at h1
    have hi := blt_lt h1.1
    have hle := ble_le h1.2
    have hg : l.getD idx default = l[idx] := by simp [List.getD_eq_getElem?_getD, hi]
    rw [fints, hg] at hK
    refine ⟨by simp only [lenO]; omega, _, (((l[idx].toL).drop off).take n).map (Value.int .u64), hK, by simp [toL24]; omega, ?_, Den.mkInts _ _⟩
    intro j hj
    have hj' : j < n := by simp at hj; omega
    have := hC idx hi (off + j) (by omega)
    simp only [strO, Nat.add_assoc]
    rw [this]; simp [List.getD_eq_getElem?_getD]; rw [List.getElem?_eq_getElem (by rw [toL24]; omega)]; rfl
  · rename_i m s f
    obtain ⟨h1, hK⟩ := guard_iff.1 h
    simp only [Bool.and_eq_true] at h1
    have hi := blt_lt h1.1
    have hle := ble_le h1.2
    have hlen := hC.1 idx hi
    have hx : ∀ j, ∃ x, ∀ (hj : j < (f idx).length), get (idx * s + j) = some x ∧ x.one = true ∧ D (f idx)[j] x := fun j => by
      by_cases hj : j < (f idx).length
      · obtain ⟨x, hx⟩ := hC.2 idx hi j hj; exact ⟨x, fun _ => hx⟩
      · exact ⟨.nilFunc, fun h => absurd h hj⟩
    let vs := fun i => Classical.choose (hx i)
    have hvs : ∀ j (hj : j < (f idx).length), get (idx * s + j) = some (vs j) ∧ (vs j).one = true ∧ D (f idx)[j] (vs j) := fun i => Classical.choose_spec (hx i)
    refine ⟨by simp only [lenO]; omega, _, (List.range n).map (fun j => vs (off + j)), hK, by simp, ?_, ?_⟩
    · intro j hj
      have hj' : j < n := by simpa using hj
      simp only [strO, Nat.add_assoc]
      rw [(hvs (off + j) (by omega)).1]; simp
    · have key : ∀ j (h : j < (((f idx).drop off).take n).length), Den g (fixc c (((f idx).drop off).take n)[j]) (vs (off + j)) := by
        intro j hj
        have hj' : j < n := by simp at hj; omega
        have : (((f idx).drop off).take n)[j] = (f idx)[off + j] := by simp
        rw [this]; exact hD _ _ (hvs (off + j) (by omega)).2.2
      have hone : ∀ i (h' : i < ((List.range n).map (fun j => vs (off + j))).length), (((List.range n).map (fun j => vs (off + j))))[i].one = true := by
        intro i hi
        have hi' : i < n := by simpa using hi
        simpa using (hvs (off + i) (by omega)).2.1
      have plain : fixA c (.agg (((f idx).drop off).take n)) = .agg ((((f idx).drop off).take n).map (fixc c)) := by
        cases c <;> simp only [fixA] <;> first
          | (congr 1; exact (List.map_id'' (fun x => rfl) _).symm)
          | rfl
      rw [plain]
      refine .agg _ _ (by simp; omega) hone ?_
      intro i h1 h2
      have := key i (by simpa using h1)
      simpa using this
end Go.Sx

namespace Go.Sx

def KindOK (P : Program) (k : TK) (u : TypeDesc) : Prop :=
  match k with
  | .int k => u = .int k
  | .str => u = .string
  | .bool => u = .bool
  | .ptr => ∃ e, u = .pointer e
  | .slice e => u = .slice e
  | .array n e => u = .array n e
  | .struct fs => ∃ fields : Array Field, u = .struct fields ∧ fs = fields.toList.map (fun f => (f.offset, f.type)) ∧ ∀ f ∈ fields.toList, ∃ i, P.info? f.type = some i ∧ i.size ≠ 0
  | .other => True

/-- The table says of a type what the program's says. -/
structure TDOK (P : Program) (t : Nat) (d : TD) : Prop where
  info : ∃ i z, P.info? t = some i ∧ i.size = d.size ∧ i.bytes ≤ 65536 ∧ i.zero = some z ∧ DenR #[] (fun _ => False) d.zero z ∧ z.cells.size = d.size
  und : ∃ u, P.underlying t = some u ∧ isAggD u = d.agg ∧ KindOK P d.kind u
  pos : 0 < d.size
  len : ∀ o, asObj d.zero = some o → lenO o = d.size ∧ strO o = 1
  one : d.agg = false → d.size = 1

def EnvOK (P : Program) (E : Env) : Prop := ∀ t d, E.td t = some d → TDOK P t d

section loads
variable {P : Program} {g : G} {w : World}

theorem loadV_sound {t : Nat} {d : TD} (TO : TDOK P t d) (HO : HeapOK g) (hw : w.heap = g.hp) {v : V} {x : Value} {p : V × Nat × Nat} {K : V → Prop} (hd : Den g v x) (hp : deref g.H v = some p) (h : loadV d v p K) :
    ∃ U y a, x = .pointer (some a) ∧ K U ∧ (loadVar t a).run P w = .ok y w ∧ Den g U y := by
  obtain ⟨o, idx, off⟩ := p
  obtain ⟨u, hu, ha, _⟩ := TO.und
  obtain ⟨i, z, hi, hs, _⟩ := TO.info
  have hl : 0 < lenO o := by
    unfold loadV at h
    cases hag : d.agg <;> simp only [hag] at h
    · cases o <;> simp only [cellAt] at h <;> try exact h.elim
      · obtain ⟨h1, _⟩ := guard_iff.1 h; simp only [Bool.and_eq_true] at h1; have := blt_lt h1.2; simp only [lenO]; omega
      · obtain ⟨h1, h2⟩ := guard_iff.1 h; split at h2
        · rename_i hv; obtain ⟨hlt, _⟩ := List.getElem?_eq_some_iff.1 hv; simp only [lenO]; omega
        · exact h2.elim
      · obtain ⟨h1, _⟩ := guard_iff.1 h; simp only [Bool.and_eq_true] at h1; have := blt_lt h1.1; simp only [lenO]; omega
    · have hpos := TO.pos
      cases o <;> simp only [partAt] at h <;> try exact h.elim
      all_goals (obtain ⟨h1, _⟩ := guard_iff.1 h; simp only [Bool.and_eq_true] at h1; simp only [lenO])
      · have := ble_le h1.2; omega
      · have := ble_le h1.2; omega
      · have := blt_lt h1.1; omega
      · have := blt_lt h1.1; omega
      · have := blt_lt h1.1; omega
  obtain ⟨b, bo, D, rfl, hC, hD⟩ := deref_sound HO hw hd hp hl
  unfold loadV at h
  cases hag : d.agg <;> simp only [hag] at h
  · obtain ⟨_, U, y, hK, hy, _, hden⟩ := cellAt_sound hC v hD h
    exact ⟨U, y, _, rfl, hK, run_loadVar_cell hu (ha.trans hag) hy, hden⟩
  · obtain ⟨_, U, L, hK, hL, hget, hden⟩ := partAt_sound hC v hD TO.pos h
    refine ⟨U, _, _, rfl, hK, run_loadVar_agg L hu (ha.trans hag) hi (hs.trans hL.symm) ?_, hden⟩
    intro j hj
    have := hget j hj
    simpa [Nat.add_assoc] using this

/-- A part of an aggregate. -/
theorem part_sound {t : Nat} {d : TD} (TO : TDOK P t d) {o : V} {cs : Array Value} {D : V → Value → Prop} (hC : Cont D o (fun i => cs[i]?)) (hD : ∀ U y, D U y → Den g U y) {off : Nat} {K : V → Prop}
    (h : loadV d .any (o, 0, off) K) : ∃ U y, K U ∧ (part t cs off).run P w = .ok y w ∧ Den g U y := by
  obtain ⟨u, hu, ha, _⟩ := TO.und
  obtain ⟨i, z, hi, hs, _⟩ := TO.info
  unfold loadV at h
  unfold part
  rw [run_bind, run_isAgg hu]
  cases hag : d.agg <;> simp only [hag] at h <;> simp only [ha.trans hag]
  · obtain ⟨_, U, y, hK, hy, _, hden⟩ := cellAt_sound hC .any hD h
    simp only [Nat.zero_mul, Nat.zero_add] at hy
    exact ⟨U, y, hK, by simp [hy, run_pure], hden⟩
  · obtain ⟨_, U, L, hK, hL, hget, hden⟩ := partAt_sound hC .any hD TO.pos h
    refine ⟨U, _, hK, ?_, hden⟩
    simp only [if_true]
    rw [run_bind, run_sizeOf hi]
    have : cs.extract off (off + i.size) = L.toArray := by
      rw [hs, ← hL]
      simp only [Nat.zero_mul, Nat.zero_add] at hget
      have hle : off + L.length ≤ cs.size := by
        rcases Nat.eq_zero_or_pos L.length with h0 | h0
        · have := TO.pos; omega
        · have := hget (L.length - 1) (by omega)
          obtain ⟨h1, _⟩ := Array.getElem?_eq_some_iff.1 this
          omega
      apply Array.ext
      · simp; omega
      · intro j h1 h2
        have h2' : j < L.length := by simpa using h2
        have := hget j h2'
        rw [Array.getElem?_eq_getElem (by omega)] at this
        simp at this
        simpa using this
    show Result.ok (Value.agg (cs.extract off (off + i.size))) w = _
    rw [this]
end loads

/-! ### New objects -/
def G.create (g : G) (nm : Nat) (e : Ent) (c : Array Value) (T : TypeId) : G :=
  { A := fun n => g.A n ∨ n = nm, H := (nm, e) :: g.H, ρ := fun n => if n = nm then g.hp.size else g.ρ n, bs := fun n => if n = nm then c.size else g.bs n, base := g.base, hp := g.hp.push (.cells c T) }

universe u
theorem lk_cons {α : Type u} (n m : Nat) (x : α) (r : List (Nat × α)) : lk n ((m, x) :: r) = if n = m then some x else lk n r := by
  simp only [lk]
  by_cases h : n = m
  · subst h; simp
  · have : Nat.beq n m = false := by
      cases hb : Nat.beq n m
      · rfl
      · exact absurd (Nat.eq_of_beq_eq_true hb) h
    simp [this, h]

theorem create_le {g : G} (HO : HeapOK g) {nm : Nat} (hn : ¬ g.A nm) (e : Ent) (c : Array Value) (T : TypeId) : g.le (g.create nm e c T) where
  A := fun n h => .inl h
  base := rfl
  fixed := fun n hA e' he hg => by
    have hne : n ≠ nm := fun h => hn (h ▸ hA)
    simp only [G.create, lk_cons, hne, if_false] at he
    exact ⟨e', he, hg, by simp [G.create, hne]⟩
  grow := fun n hA e' he hg hv => by
    have hne : n ≠ nm := fun h => hn (h ▸ hA)
    simp only [G.create, lk_cons, hne, if_false] at he
    exact ⟨e', he, hg, rfl, by simp [G.create, hne], by simp [G.create, hne], rfl, rfl⟩
  ok := fun b hb ho => by
    refine ⟨by simp [G.create]; omega, ?_, by simp [G.create, Array.getElem?_push]; omega⟩
    rintro ⟨n, e', he, hp, hr⟩
    by_cases hne : n = nm
    · subst hne; simp [G.create] at hr; omega
    · simp only [G.create, lk_cons, hne, if_false] at he hr
      exact ho ⟨n, e', he, hp, hr⟩

theorem create_ok {g : G} (HO : HeapOK g) {nm : Nat} (hn : ¬ g.A nm) (e : Ent) (hv : e.grow = true → e.ver = nm) (c : Array Value) (T : TypeId) (hob : e.present → ObjD g e.o c) : HeapOK (g.create nm e c T) where
  basele := by simp [G.create]; have := HO.basele; omega
  names := fun n e' he => by
    by_cases hne : n = nm
    · subst hne
      simp [G.create, lk_cons] at he
      subst he
      exact ⟨.inr rfl, fun h => .inr (hv h)⟩
    · simp only [G.create, lk_cons, hne, if_false] at he
      exact ⟨.inl (HO.names n e' he).1, fun h => .inl ((HO.names n e' he).2 h)⟩
  objs := fun n e' he hp => by
    by_cases hne : n = nm
    · subst hne
      simp [G.create, lk_cons] at he
      subst he
      exact ⟨by simp [G.create]; exact HO.basele, c, T, by simp [G.create], by simp [G.create], (hob hp).mono (create_le HO hn e c T)⟩
    · simp only [G.create, lk_cons, hne, if_false] at he
      obtain ⟨h1, c', T', h2, h3, h4⟩ := HO.objs n e' he hp
      have hlt := HO.lt he hp
      refine ⟨by simpa [G.create, hne] using h1, c', T', ?_, by simpa [G.create, hne] using h3, h4.mono (create_le HO hn e c T)⟩
      simp only [G.create, hne, if_false]
      rw [Array.getElem?_push, if_neg (by omega)]; exact h2
  inj := fun n m e1 e2 h1 h2 p1 p2 hr => by
    by_cases hn1 : n = nm <;> by_cases hm1 : m = nm
    · exact hn1.trans hm1.symm
    · simp only [G.create, lk_cons, hm1, if_false] at h2
      have := HO.lt h2 p2
      simp [G.create, hn1, hm1] at hr; omega
    · simp only [G.create, lk_cons, hn1, if_false] at h1
      have := HO.lt h1 p1
      simp [G.create, hn1, hm1] at hr; omega
    · simp only [G.create, lk_cons, hn1, hm1, if_false] at h1 h2
      simp [G.create, hn1, hm1] at hr
      exact HO.inj n m e1 e2 h1 h2 p1 p2 hr

/-- What an operation does to the world outside. -/
structure Keeps (base : Nat) (w w' : World) : Prop where
  os : w'.os = w.os
  tape : w'.tape = w.tape
  output : w'.output = w.output
  size : w.heap.size ≤ w'.heap.size
  block : ∀ b, b < base → w'.heap[b]? = w.heap[b]?
theorem Keeps.refl (b : Nat) (w : World) : Keeps b w w := ⟨rfl, rfl, rfl, Nat.le_refl _, fun _ _ => rfl⟩
theorem Keeps.trans {b : Nat} {w w' w'' : World} (h : Keeps b w w') (k : Keeps b w' w'') : Keeps b w w'' :=
  ⟨k.os.trans h.os, k.tape.trans h.tape, k.output.trans h.output, Nat.le_trans h.size k.size, fun i hi => (k.block i hi).trans (h.block i hi)⟩
theorem Keeps.push {b : Nat} {w : World} (h : b ≤ w.heap.size) (o : Obj) : Keeps b w { w with heap := w.heap.push o } :=
  ⟨rfl, rfl, rfl, by simp, fun i hi => by simp [Array.getElem?_push]; omega⟩

structure Ext (g g' : G) (w w' : World) (nm : Nat) : Prop where
  le : g.le g'
  ok : HeapOK g'
  heap : w'.heap = g'.hp
  names : ∀ n, g'.A n → g.A n ∨ n = nm
  keeps : Keeps g.base w w'

theorem G.le.refl (g : G) : g.le g := ⟨fun _ h => h, rfl, fun _ _ e h k => ⟨e, h, k, rfl⟩, fun _ _ e h k _ => ⟨e, h, k, rfl, rfl, rfl, rfl, rfl⟩, fun _ h k => ⟨h, k, rfl⟩⟩
theorem Ext.refl {g : G} (HO : HeapOK g) {w : World} (hw : w.heap = g.hp) (nm : Nat) : Ext g g w w nm := ⟨.refl g, HO, hw, fun _ h => .inl h, .refl _ _⟩

theorem create_ext {g : G} (HO : HeapOK g) {w : World} (hw : w.heap = g.hp) {nm : Nat} (hn : ¬ g.A nm) (e : Ent) (hv : e.grow = true → e.ver = nm) (c : Array Value) (T : TypeId) (hob : e.present → ObjD g e.o c) :
    Ext g (g.create nm e c T) w { w with heap := w.heap.push (.cells c T) } nm :=
  ⟨create_le HO hn e c T, create_ok HO hn e hv c T hob, by simp [G.create, hw], fun _ h => h, .push (by rw [hw]; exact HO.basele) _⟩

def valOf : Next → Option Value
  | .value v => some v
  | .skip => some undef
  | _ => none

def OpOK (P : Program) (ev : Operand → Value) (o : Oper) (g : G) (w : World) (nm : Nat) (K : V → Heap → Prop) : Prop :=
  ∃ U g' w' nx y, K U g'.H ∧ (execOp ev o).run P w = .ok nx w' ∧ valOf nx = some y ∧ Den g' U y ∧ Ext g g' w w' nm

/-- An operation that turns nothing. -/
theorem OpOK.same {P : Program} {ev : Operand → Value} {o : Oper} {g : G} {w : World} {nm : Nat} {K : V → Heap → Prop} (HO : HeapOK g) (hw : w.heap = g.hp) {U : V} {y : Value} (hK : K U g.H)
    (hr : (execOp ev o).run P w = .ok (.value y) w) (hd : Den g U y) : OpOK P ev o g w nm K := ⟨U, g, w, _, y, hK, hr, rfl, hd, .refl HO hw nm⟩

theorem cellish_one {g : G} {U : V} {x : Value} (hc : U.cellish = true) (hd : Den g U x) : x.one = true := by
  cases hd with
  | ro _ _ h => cases h <;> first | (simp [V.cellish] at hc; done) | rfl
  | freshS _ _ h => cases h <;> rfl
  | freshP _ _ _ _ h => cases h; rfl
  | agg => simp [V.cellish] at hc
  | tup => simp [V.cellish] at hc
  | clo => rfl
  | ptr _ _ _ h => exact h
  | eptr _ _ _ _ _ h => exact h
  | slw _ _ _ h => exact h
  | sub _ _ _ _ _ h => exact h
  | sl _ _ _ _ h => exact h

theorem cells_one {x : Value} (h : x.one = true) : x.cells = #[x] := by cases x <;> first | rfl | simp [Value.one] at h

theorem asObj_sound {g : G} {U o : V} {x : Value} (h : asObj U = some o) (hd : Den g U x) : ObjD g o x.cells := by
  have cellish : ∀ {U}, U.cellish = true → Den g U x → ObjD g (.agg [U]) x.cells := by
    intro U hc hd
    rw [cells_one (cellish_one hc hd)]
    intro i hi
    have : i = 0 := by simp at hi; exact hi
    subst this
    exact ⟨x, rfl, cellish_one hc hd, hd⟩
  cases U <;> simp only [asObj] at h <;> first
    | (split at h <;> simp at h; subst h; exact cellish ‹_› hd)
    | skip
  · -- int
    simp at h; subst h; rw [den_int hd]
    intro i hi
    have : i = 0 := by simp at hi; exact hi
    subst this; rfl
  · simp at h; subst h; rw [den_ints hd]
    intro i hi
    simp [Value.cells, hi]
  · simp at h; subst h
    obtain ⟨vs, rfl, h1, h2, h3⟩ := den_agg hd
    intro i hi
    have hi' := h1 ▸ hi
    exact ⟨vs[i], by simp [Value.cells, hi'], h2 i hi', h3 i hi hi'⟩
end Go.Sx

namespace Go.Sx

def putL (c : Array Value) (off : Nat) : List Value → Array Value
  | [] => c
  | v :: r => putL (c.setIfInBounds off v) (off + 1) r

theorem putL_size (L : List Value) : ∀ (c : Array Value) (off : Nat), (putL c off L).size = c.size := by
  induction L with
  | nil => intro c off; rfl
  | cons v r ih => intro c off; simp [putL, ih]

theorem putL_get (L : List Value) : ∀ (c : Array Value) (off : Nat), off + L.length ≤ c.size → ∀ i, (putL c off L)[i]? = if off ≤ i ∧ i < off + L.length then L[i - off]? else c[i]? := by
  induction L with
  | nil => intro c off _ i; simp [putL]; omega
  | cons v r ih =>
    intro c off hle i
    simp only [List.length_cons] at hle
    simp only [putL]
    rw [ih _ _ (by simp; omega)]
    by_cases h1 : i = off
    · subst h1
      have hlt : i < c.size := by omega
      rw [if_neg (by omega), if_pos (by simp)]
      simp [hlt]
    · by_cases h2 : off + 1 ≤ i ∧ i < off + 1 + r.length
      · rw [if_pos h2, if_pos (by simp; omega)]
        have : i - off = (i - (off + 1)) + 1 := by omega
        rw [this]; simp
      · rw [if_neg h2, if_neg (by simp; omega)]
        rw [Array.getElem?_setIfInBounds_ne (by omega)]

theorem run_store {P : Program} {w : World} {b off : Nat} {c : Array Value} {T : TypeId} {v : Value} (hc : w.heap[b]? = some (.cells c T (0, 0))) (ho : off < c.size) (hv : v.one = true) :
    (store ⟨b, off, none⟩ v).run P w = .ok () (w.setCell ⟨b, off, none⟩ v) := by
  have h1 : w.cell? ⟨b, off, none⟩ = some c[off] := by rw [cell_at hc]; simp [ho]
  have h2 : w.frozen? ⟨b, off, none⟩ = false := by simp [World.frozen?, hc]
  cases v <;> first
    | (simp [Value.one] at hv; done)
    | simp [store, Sem.run, h1, h2]

theorem setCell_block {w : World} {b off : Nat} {c : Array Value} {T : TypeId} {v : Value} (hc : w.heap[b]? = some (.cells c T (0, 0))) :
    (w.setCell ⟨b, off, none⟩ v).heap[b]? = some (.cells (c.setIfInBounds off v) T (0, 0)) := by
  simp [World.setCell, Array.getElem?_modify, hc]

structure Upd (w w' : World) (b : Nat) : Prop where
  os : w'.os = w.os
  tape : w'.tape = w.tape
  output : w'.output = w.output
  size : w'.heap.size = w.heap.size
  block : ∀ b', b' ≠ b → w'.heap[b']? = w.heap[b']?

theorem run_storeCells {P : Program} {b : Nat} {T : TypeId} : ∀ (L : List Value) (i off : Nat) (w : World) (c : Array Value), w.heap[b]? = some (.cells c T (0, 0)) → off + i + L.length ≤ c.size → (∀ v ∈ L, v.one = true) →
    ∃ w', (storeCells ⟨b, off, none⟩ L i).run P w = .ok () w' ∧ w'.heap[b]? = some (.cells (putL c (off + i) L) T (0, 0)) ∧ Upd w w' b := by
  intro L
  induction L with
  | nil => intro i off w c hc _ _; exact ⟨w, rfl, hc, rfl, rfl, rfl, rfl, fun _ _ => rfl⟩
  | cons v r ih =>
    intro i off w c hc hle hone
    simp only [List.length_cons] at hle
    simp only [storeCells]
    rw [run_bind, add_none, run_store hc (by omega) (hone v (by simp))]
    obtain ⟨w', h1, h2, h3⟩ := ih (i + 1) off (w.setCell ⟨b, off + i, none⟩ v) (c.setIfInBounds (off + i) v) (setCell_block hc) (by simp; omega) (fun u hu => hone u (by simp [hu]))
    refine ⟨w', h1, h2, h3.os, h3.tape, h3.output, h3.size.trans (by simp [World.setCell]), fun b' hb' => (h3.block b' hb').trans ?_⟩
    simp [World.setCell, Array.getElem?_modify, hb'.symm]

theorem run_storeVar {P : Program} {t : Nat} {i : TypeInfo} {b off : Nat} {T : TypeId} {w : World} {c : Array Value} {x : Value} (hi : P.info? t = some i) (hs : x.cells.size = i.size) (hc : w.heap[b]? = some (.cells c T (0, 0)))
    (hle : off + x.cells.size ≤ c.size) (hone : ∀ v ∈ x.cells.toList, v.one = true) :
    ∃ w', (storeVar t ⟨b, off, none⟩ x).run P w = .ok () w' ∧ w'.heap[b]? = some (.cells (putL c off x.cells.toList) T (0, 0)) ∧ Upd w w' b := by
  obtain ⟨w', h1, h2, h3⟩ := run_storeCells (P := P) x.cells.toList 0 off w c hc (by simpa using hle) hone
  refine ⟨w', ?_, h2, h3⟩
  unfold storeVar
  rw [run_bind, run_sizeOf hi]
  simp only [hs, ne_eq, not_true_eq_false, if_false]
  exact h1

theorem setL_eq {α : Type} : ∀ (l : List α) (i : Nat) (v : α), setL l i v = l.set i v
  | [], _, _ => rfl
  | _ :: _, 0, _ => rfl
  | _ :: r, n + 1, v => by simp [setL, setL_eq r n v]

theorem spliceL_length {α : Type} {l m : List α} {off : Nat} (h : off + m.length ≤ l.length) : (spliceL l off m).length = l.length := by
  simp [spliceL]; omega
theorem spliceL_get {α : Type} {l m : List α} {off : Nat} (h : off + m.length ≤ l.length) (i : Nat) : (spliceL l off m)[i]? = if off ≤ i ∧ i < off + m.length then m[i - off]? else l[i]? := by
  simp only [spliceL]
  by_cases h1 : i < off
  · rw [if_neg (by omega), List.getElem?_append_left (by simp; omega)]
    simp [h1]
  · rw [List.getElem?_append_right (by simp; omega)]
    have e1 : (l.take off).length = off := by simp; omega
    rw [e1]
    by_cases h2 : i < off + m.length
    · rw [if_pos (by omega), List.getElem?_append_left (by omega)]
    · rw [if_neg (by omega), List.getElem?_append_right (by omega)]
      simp
      congr 1; omega

theorem ofL_toL : ∀ (m : List Int), m.length = 24 → (Pt.ofL m).toL = m := by
  intro m h
  match m, h with
  | [_, _, _, _, _, _, _, _, _, _, _, _, _, _, _, _, _, _, _, _, _, _, _, _], _ => rfl
theorem ofL_toL8 : ∀ (m : List Int), m.length = 8 → (El.ofL m).toL = m := by
  intro m h
  match m, h with
  | [_, _, _, _, _, _, _, _], _ => rfl

theorem getElem_of_some {α : Type} {l : List α} {i : Nat} (h : i < l.length) {x : α} (e : l[i]? = some x) : l[i] = x := by
  rw [List.getElem?_eq_getElem h] at e; exact Option.some.inj e

theorem kindEq_eq {a b : IntKind} (h : kindEq a b = true) : a = b := by cases a <;> cases b <;> first | rfl | simp [kindEq] at h

theorem putAt_sound {g : G} {o : V} {c : Array Value} {v : V} {x : Value} {idx off : Nat} {K : V → Prop} (hob : ObjD g o c) (hd : Den g v x) (h : putAt o idx off v K) :
    ∃ o', K o' ∧ idx * strO o + off + x.cells.size ≤ c.size ∧ (∀ u ∈ x.cells.toList, u.one = true) ∧ ObjD g o' (putL c (idx * strO o + off) x.cells.toList) ∧ lenO o' = lenO o ∧ strO o' = strO o := by
  cases o <;> simp only [putAt] at h <;> try exact h.elim
  · -- ints
    rename_i k l
    have hcs : l.length ≤ c.size := by
      rcases Nat.eq_zero_or_pos l.length with h0 | h0
      · omega
      · have := hob (l.length - 1) (by omega)
        obtain ⟨h1, _⟩ := Array.getElem?_eq_some_iff.1 this
        omega
    cases v <;> simp only at h <;> try exact h.elim
    · rename_i k' n
      obtain ⟨h1, hK⟩ := guard_iff.1 h
      simp only [Bool.and_eq_true] at h1
      obtain ⟨⟨h1, h2⟩, h3⟩ := h1
      have hi : idx = 0 := Nat.eq_of_beq_eq_true h1
      have hk := kindEq_eq h2
      have hlt := blt_lt h3
      subst hi hk
      rw [den_int hd]
      refine ⟨_, hK, by simp [strO, Value.cells]; omega, by intro u hu; simp [Value.cells] at hu; subst hu; rfl, ?_, by simp [lenO, setL_eq], rfl⟩
      intro i hi
      simp only [setL_eq, List.length_set] at hi
      rw [putL_get _ _ _ (by simp [strO, Value.cells]; omega)]
      simp only [strO, Nat.zero_mul, Nat.zero_add, Value.cells, List.length_cons, List.length_nil, setL_eq]
      by_cases e : i = off
      · subst e; simp
      · rw [if_neg (by omega), hob i hi]; simp [List.getElem_set, Ne.symm e]
    · rename_i k' m
      obtain ⟨h1, hK⟩ := guard_iff.1 h
      simp only [Bool.and_eq_true] at h1
      obtain ⟨⟨h1, h2⟩, h3⟩ := h1
      have hi : idx = 0 := Nat.eq_of_beq_eq_true h1
      have hk := kindEq_eq h2
      have hle := ble_le h3
      subst hi hk
      rw [den_ints hd]
      refine ⟨_, hK, by simp [strO, Value.cells]; omega, by intro u hu; simp [Value.cells] at hu; obtain ⟨a, _, rfl⟩ := hu; rfl, ?_, by simp [lenO, spliceL_length hle], rfl⟩
      intro i hi
      rw [putL_get _ _ _ (by simp [strO, Value.cells]; omega)]
      simp only [strO, Nat.zero_mul, Nat.zero_add, Value.cells, List.length_map, List.toList_toArray]
      have hg := spliceL_get hle i
      by_cases e : off ≤ i ∧ i < off + m.length
      · rw [if_pos e] at hg ⊢
        have hlt : i - off < m.length := by omega
        rw [List.getElem?_eq_getElem hlt] at hg
        rw [List.getElem?_map, List.getElem?_eq_getElem hlt, getElem_of_some hi hg]; rfl
      · rw [if_neg e] at hg ⊢
        rw [spliceL_length hle] at hi
        rw [List.getElem?_eq_getElem hi] at hg
        rw [hob i hi, getElem_of_some (by rw [spliceL_length hle]; exact hi) hg]
  · -- agg
    rename_i l
    have hcs : l.length ≤ c.size := by
      rcases Nat.eq_zero_or_pos l.length with h0 | h0
      · omega
      · obtain ⟨_, this, _⟩ := hob (l.length - 1) (by omega)
        obtain ⟨h1, _⟩ := Array.getElem?_eq_some_iff.1 this
        omega
    have one : v.cellish = true → Nat.beq idx 0 = true → Nat.blt off l.length = true → K (.agg (setL l off v)) → ∃ o', K o' ∧ idx * strO (.agg l) + off + x.cells.size ≤ c.size ∧ (∀ u ∈ x.cells.toList, u.one = true) ∧ ObjD g o' (putL c (idx * strO (.agg l) + off) x.cells.toList) ∧ lenO o' = lenO (.agg l) ∧ strO o' = strO (.agg l) := by
      intro hc h1 h3 hK
      have hi : idx = 0 := Nat.eq_of_beq_eq_true h1
      have hlt := blt_lt h3
      have hx1 := cellish_one hc hd
      have hx := cells_one hx1
      subst hi
      refine ⟨_, hK, by simp [strO, hx]; omega, by intro u hu; simp [hx] at hu; subst hu; exact hx1, ?_, by simp [lenO, setL_eq], rfl⟩
      intro i hi
      simp only [setL_eq, List.length_set] at hi
      rw [putL_get _ _ _ (by simp [strO, hx]; omega)]
      simp only [strO, Nat.zero_mul, Nat.zero_add, hx, List.length_cons, List.length_nil, setL_eq]
      by_cases e : i = off
      · subst e; exact ⟨x, by simp, hx1, by simpa using hd⟩
      · rw [if_neg (by omega)]
        obtain ⟨y, h1, h2, h3⟩ := hob i hi
        exact ⟨y, h1, h2, by simpa [List.getElem_set, Ne.symm e] using h3⟩
    have many : ∀ (m : List V) (vs : List Value), x.cells = vs.toArray → m.length = vs.length → (∀ i (h' : i < vs.length), vs[i].one = true) → (∀ i (h : i < m.length) (h' : i < vs.length), Den g m[i] vs[i]) →
        Nat.beq idx 0 = true → off + m.length ≤ l.length → K (.agg (spliceL l off m)) → ∃ o', K o' ∧ idx * strO (.agg l) + off + x.cells.size ≤ c.size ∧ (∀ u ∈ x.cells.toList, u.one = true) ∧ ObjD g o' (putL c (idx * strO (.agg l) + off) x.cells.toList) ∧ lenO o' = lenO (.agg l) ∧ strO o' = strO (.agg l) := by
      intro m vs hx hml h1 hden hi hle hK
      have hi : idx = 0 := Nat.eq_of_beq_eq_true hi
      subst hi
      refine ⟨_, hK, by simp [strO, hx]; omega, ?_, ?_, by simp [lenO, spliceL_length hle], rfl⟩
      · intro u hu
        simp [hx] at hu
        obtain ⟨j, hj, rfl⟩ := List.getElem_of_mem hu
        exact h1 j hj
      · intro i hi
        rw [putL_get _ _ _ (by simp [strO, hx]; omega)]
        simp only [strO, Nat.zero_mul, Nat.zero_add, hx]
        have hg := spliceL_get hle i
        by_cases e : off ≤ i ∧ i < off + m.length
        · rw [if_pos e] at hg
          rw [if_pos (by omega)]
          have hlt : i - off < m.length := by omega
          rw [List.getElem?_eq_getElem hlt] at hg
          exact ⟨vs[i - off], List.getElem?_eq_getElem (by omega), h1 _ (by omega), by rw [getElem_of_some hi hg]; exact hden _ _ _⟩
        · rw [if_neg e] at hg
          rw [if_neg (by omega)]
          rw [spliceL_length hle] at hi
          rw [List.getElem?_eq_getElem hi] at hg
          obtain ⟨y, k1, k2, k3⟩ := hob i hi
          exact ⟨y, k1, k2, by rw [getElem_of_some (by rw [spliceL_length hle]; exact hi) hg]; exact k3⟩
    cases v <;> simp only at h <;> try (obtain ⟨h1, hK⟩ := guard_iff.1 h; simp only [Bool.and_eq_true] at h1; exact one h1.1.1 h1.1.2 h1.2 hK)
    · rename_i k m
      obtain ⟨h1, hK⟩ := guard_iff.1 h
      simp only [Bool.and_eq_true] at h1
      have hx := den_ints hd
      refine many (m.map (.int k)) (m.map (Value.int k)) (by rw [hx]; rfl) (by simp) (by intro i hi; simp; rfl) (by intro i h1 h2; simp; exact Den.mkInt _ _) h1.1 (by simpa using ble_le h1.2) hK
    · rename_i m
      obtain ⟨h1, hK⟩ := guard_iff.1 h
      simp only [Bool.and_eq_true] at h1
      obtain ⟨vs, rfl, k1, k2, k3⟩ := den_agg hd
      exact many m vs rfl k1 k2 k3 h1.1 (ble_le h1.2) hK
  · -- pts
    rename_i l
    cases v <;> (try simp only at h) <;> try exact h.elim
    rename_i k m
    cases k <;> try exact h.elim
    obtain ⟨h1, hK⟩ := guard_iff.1 h
    simp only [Bool.and_eq_true] at h1
    obtain ⟨⟨h1, h2⟩, h3⟩ := h1
    have hoff : off = 0 := Nat.eq_of_beq_eq_true h1
    have hm : m.length = 24 := Nat.eq_of_beq_eq_true h2
    have hlt := blt_lt h3
    subst hoff
    have hcs : l.length * 24 ≤ c.size := by
      have := hob (l.length - 1) (by omega) 23 (by omega)
      obtain ⟨h1, _⟩ := Array.getElem?_eq_some_iff.1 this
      omega
    rw [den_ints hd]
    refine ⟨_, hK, by simp [strO, Value.cells, hm]; omega, by intro u hu; simp [Value.cells] at hu; obtain ⟨a, _, rfl⟩ := hu; rfl, ?_, by simp [lenO, setL_eq], rfl⟩
    intro i hi j hj
    simp only [setL_eq, List.length_set] at hi
    rw [putL_get _ _ _ (by simp [strO, Value.cells, hm]; omega)]
    simp only [strO, Nat.add_zero, Value.cells, List.length_map, List.toList_toArray, hm, setL_eq]
    by_cases e : i = idx
    · subst e
      rw [if_pos (by omega)]
      have : i * 24 + j - i * 24 = j := by omega
      rw [this]
      simp [ofL_toL m hm, List.getD_eq_getElem?_getD, hm, hj]
    · rw [if_neg (by omega), hob i hi j hj]; simp [List.getElem_set, Ne.symm e]

/-- Another content of a named object. -/
def G.upd (g : G) (n : Nat) (e : Ent) (hp : Array Obj) : G := { g with H := (n, e) :: g.H, hp := hp }

theorem upd_ext {g : G} (HO : HeapOK g) {w w' : World} (hw : w.heap = g.hp) {n : Nat} {e : Ent} (he : lk n g.H = some e) (hp : e.present) {o' : V} {c' : Array Value} {T : TypeId}
    (hu : Upd w w' (g.ρ n)) (hc' : w'.heap[g.ρ n]? = some (.cells c' T (0, 0))) (hsz : c'.size = g.bs n) (hob : ObjD g o' c') (hl : lenO o' = lenO e.o) (hs : strO o' = strO e.o) (nm : Nat) :
    Ext g (g.upd n { e with o := o' } w'.heap) w w' nm := by
  have hpres : ∀ m f, lk m ((n, ({ e with o := o' } : Ent)) :: g.H) = some f → ∃ f', lk m g.H = some f' ∧ f'.grow = f.grow ∧ f'.ver = f.ver ∧ lenO f'.o = lenO f.o ∧ strO f'.o = strO f.o := by
    intro m f hf
    rw [lk_cons] at hf
    by_cases hm : m = n
    · subst hm; simp at hf; subst hf; exact ⟨e, he, rfl, rfl, hl.symm, hs.symm⟩
    · rw [if_neg hm] at hf; exact ⟨f, hf, rfl, rfl, rfl, rfl⟩
  have pres : ∀ {f f' : Ent}, f'.grow = f.grow → lenO f'.o = lenO f.o → f.present → f'.present := by
    intro f f' h1 h2 h; unfold Ent.present at *; rw [h1, h2]; exact h
  have ownd : ∀ b, (g.upd n { e with o := o' } w'.heap).owned b → g.owned b := by
    rintro b ⟨m, f, hf, hpf, hr⟩
    obtain ⟨f', k1, k2, k3, k4, k5⟩ := hpres m f hf
    exact ⟨m, f', k1, pres k2 k4 hpf, hr⟩
  have hle : g.le (g.upd n { e with o := o' } w'.heap) :=
    { A := fun _ h => h
      base := rfl
      fixed := fun m hA f hf hg => by
        obtain ⟨f', k1, k2, k3, k4, k5⟩ := hpres m f hf
        exact ⟨f', k1, k2.trans hg, rfl⟩
      grow := fun m hA f hf hg hv => by
        obtain ⟨f', k1, k2, k3, k4, k5⟩ := hpres m f hf
        exact ⟨f', k1, k2.trans hg, k3, rfl, rfl, k4.symm, k5.symm⟩
      ok := fun b hb ho => by
        refine ⟨by show b < w'.heap.size; rw [hu.size, hw]; exact hb, fun h => ho (ownd b h), ?_⟩
        show w'.heap[b]? = _
        rw [hu.block b (fun h => ho ⟨n, e, he, hp, h.symm⟩), hw] }
  refine ⟨hle, ?_, rfl, fun _ h => .inl h, ⟨hu.os, hu.tape, hu.output, Nat.le_of_eq hu.size.symm, fun b hb => hu.block b ?_⟩⟩
  · exact
    { basele := by show g.base ≤ w'.heap.size; rw [hu.size, hw]; exact HO.basele
      names := fun m f hf => by
        obtain ⟨f', k1, k2, k3, k4, k5⟩ := hpres m f hf
        have := HO.names m f' k1
        exact ⟨this.1, fun h => k3 ▸ this.2 (k2.trans h)⟩
      objs := fun m f hf hpf => by
        by_cases hm : m = n
        · subst hm
          have : f = { e with o := o' } := by simpa [G.upd, lk_cons] using hf.symm
          subst this
          exact ⟨(HO.objs m e he hp).1, c', T, hc', hsz, hob.mono hle⟩
        · have hf' : lk m g.H = some f := by simpa [G.upd, lk_cons, hm] using hf
          obtain ⟨h1, c'', T'', h2, h3, h4⟩ := HO.objs m f hf' hpf
          refine ⟨h1, c'', T'', ?_, h3, h4.mono hle⟩
          show w'.heap[g.ρ m]? = _
          rw [hu.block _ (fun h => hm (HO.inj m n f e hf' he hpf hp h)), hw]; exact h2
      inj := fun m m' f f' hf hf' p p' hr => by
        obtain ⟨a, k1, k2, k3, k4, k5⟩ := hpres m f hf
        obtain ⟨a', j1, j2, j3, j4, j5⟩ := hpres m' f' hf'
        exact HO.inj m m' a a' k1 j1 (pres k2 k4 p) (pres j2 j4 p') hr }
  · have := (HO.objs n e he hp).1
    omega
end Go.Sx
