/-
  VALUE SEMANTICS, 3: what each operation does to abstract values.
  Conditions: none; over any program.
-/
import Derived.Test.YtllehihgfbkgpaaVs2
namespace Go.VS

/-! ### Tables of the program -/

def usz (P : Program) (t : TypeId) : Option Nat := (P.info? t).map (·.size)
def ubytes (P : Program) (t : TypeId) : Option Nat := (P.info? t).map (·.bytes)
def uagg (P : Program) (t : TypeId) : Option Bool :=
  match P.underlying t with
  | some (.struct _) | some (.array _ _) => some true
  | some _ => some false
  | none => none
def uslice (P : Program) (t : TypeId) : Option TypeId :=
  match P.underlying t with
  | some (.slice e) => some e
  | _ => none
def uarr (P : Program) (t : TypeId) : Option (Nat × TypeId) :=
  match P.underlying t with
  | some (.array n e) => some (n, e)
  | _ => none
def uint (P : Program) (t : TypeId) : Option IntKind :=
  match P.underlying t with
  | some (.int k) => some k
  | _ => none
def ustr (P : Program) (t : TypeId) : Bool :=
  match P.underlying t with
  | some .string => true
  | _ => false
def uiface (P : Program) (t : TypeId) : Option Bool :=
  match P.underlying t with
  | some (.interface _) => some true
  | some _ => some false
  | none => none
/-- A field: its type and offset. -/
def ufield (P : Program) (t : TypeId) (f : Nat) : Option (TypeId × Nat) :=
  match P.underlying t with
  | some (.struct fs) => (fs[f]?).map fun d => (d.type, d.offset)
  | _ => none
/-- The parts of a struct or an array: where each lies, of how many cells. -/
def uplaces (P : Program) (t : TypeId) : Option (Nat → Option (Nat × Nat)) :=
  match P.underlying t with
  | some (.struct fs) => (fs.toList.mapM fun f => (usz P f.type).map fun n => (f.offset, n)).map fun l i => l[i]?
  | some (.array _ e) => (usz P e).map fun n i => some (i * n, n)
  | _ => none
def uplace (P : Program) (t : TypeId) (i : Nat) : Option (Nat × Nat) := (uplaces P t).bind (· i)

/-! ### Values -/

def ofCell : Value → V
  | .bool b => .bool b
  | .int k n => .int k n
  | .string s => .str s.data.toList
  | .pointer none => .nilp
  | .slice none 0 0 => .nils
  | .nilFunc => .nilf
  | .nilIface => .niface
  | v => .val v
def ofConst : Value → V
  | .agg cs => .agg (cs.toList.map ofCell)
  | .tuple cs => .tup (cs.toList.map ofCell)
  | v => ofCell v
def uzero (P : Program) (t : TypeId) : Option (List V) := ((P.info? t).bind (·.zero)).map fun z => z.cells.toList.map ofCell

def sget : List V → Nat → V
  | [], _ => .junk
  | a :: _, 0 => a
  | _ :: l, n + 1 => sget l n
def sset : List V → Nat → V → List V
  | [], _, _ => []
  | _ :: l, 0, v => v :: l
  | a :: l, n + 1, v => a :: sset l n v
def sput (s : List V) (dst : Option Tmp) (v : V) : List V :=
  match dst with
  | some d => sset s d v
  | none => s
/-- Several cells from place i on. -/
def lput : List V → Nat → List V → List V
  | cs, _, [] => cs
  | cs, i, v :: r => lput (cs.set i v) (i + 1) r

def oval (s : List V) : Operand → V
  | .tmp t => sget s t
  | .const v => ofConst v
  | .global g => .val (.pointer (some ⟨g, 0, none⟩))
  | .func f => .fn (.func f) []

/-- A value that surely takes one cell. -/
def V.one : V → Bool
  | .agg _ | .tup _ | .junk => false
  | .val u => u.oneCell'
  | _ => true
/-- The cells of a value. -/
def vcells : V → Option (List V)
  | .agg cs => some cs
  | v => if v.one then some [v] else none

def byteV (b : UInt8) : V := .int .u8 b.toNat
def V.isByte : V → Bool
  | .int .u8 _ => true
  | _ => false
def toByte : V → UInt8
  | .int .u8 n => UInt8.ofNat n.toNat
  | _ => 0

/-! ### Operations without memory -/

def aint (op : BinOp) (kd : IntKind) (a : Int) (kd' : IntKind) (b : Int) (k : V → Prop) : Prop :=
  match op with
  | .add => kd = kd' ∧ k (.int kd (kd.wrap (a + b)))
  | .sub => kd = kd' ∧ k (.int kd (kd.wrap (a - b)))
  | .mul => kd = kd' ∧ k (.int kd (kd.wrap (a * b)))
  | .quo => kd = kd' ∧ b ≠ 0 ∧ k (.int kd (kd.wrap (a.tdiv b)))
  | .rem => kd = kd' ∧ b ≠ 0 ∧ k (.int kd (a.tmod b))
  | .and => kd = kd' ∧ k (.int kd (bits .and kd a b))
  | .or => kd = kd' ∧ k (.int kd (bits .or kd a b))
  | .xor => kd = kd' ∧ k (.int kd (bits .xor kd a b))
  | .andNot => kd = kd' ∧ k (.int kd (bits .andNot kd a b))
  | .shl => 0 ≤ b ∧ k (.int kd (kd.wrap (a * 2 ^ (min b.toNat kd.bits))))
  | .shr => 0 ≤ b ∧ k (.int kd (a / 2 ^ (min b.toNat kd.bits)))
  | .eql => kd = kd' ∧ k (.bool (a == b))
  | .neq => kd = kd' ∧ k (.bool (a != b))
  | .lss => kd = kd' ∧ k (.bool (decide (a < b)))
  | .leq => kd = kd' ∧ k (.bool (decide (a ≤ b)))
  | .gtr => kd = kd' ∧ k (.bool (decide (b < a)))
  | .geq => kd = kd' ∧ k (.bool (decide (b ≤ a)))

def astr (op : BinOp) (a b : List UInt8) (k : V → Prop) : Prop :=
  match op with
  | .add => a.length + b.length ≤ 9223372036854775807 ∧ k (.str (a ++ b))
  | .eql => k (.bool (a == b))
  | .neq => k (.bool (!(a == b)))
  | .lss => k (.bool (Op.bytesLess a b))
  | .leq => k (.bool (Op.bytesLess a b || a == b))
  | .gtr => k (.bool (!(Op.bytesLess a b || a == b)))
  | .geq => k (.bool (!(Op.bytesLess a b)))
  | _ => False

/-- A part of an aggregate. -/
def apart (P : Program) (t : TypeId) (cs : List V) (off : Nat) (k : V → Prop) : Prop :=
  match uagg P t with
  | some true => ∃ n, usz P t = some n ∧ k (.agg ((cs.drop off).take n))
  | some false => ∃ v, cs[off]? = some v ∧ k v
  | none => False
def opart (P : Program) (t : TypeId) (cs : List V) (off : Nat) : Option V :=
  match uagg P t with
  | some true => (usz P t).map fun n => .agg ((cs.drop off).take n)
  | some false => cs[off]?
  | none => none

/-- '==' on values that are no two integers and no two strings; fuel d. -/
def aeq (P : Program) : Nat → TypeId → V → V → Option Bool
  | 0, _, _, _ => none
  | d + 1, t, x, y =>
    match P.underlying t, x, y with
    | some .bool, .bool a, .bool b => some (a == b)
    | some (.int _), .int k a, .int k' b => if k = k' then some (a == b) else none
    | some .string, .str a, .str b => some (a == b)
    | some (.pointer _), .nilp, .nilp => some true
    | some (.pointer _), .nilp, .ref _ _ | some (.pointer _), .ref _ _, .nilp | some (.pointer _), .nilp, .rptr _ | some (.pointer _), .rptr _, .nilp => some false
    | some (.slice _), .nils, .nils => some true
    | some (.slice _), .nils, .sl (_ + 1) _ | some (.slice _), .sl (_ + 1) _, .nils | some (.slice _), .nils, .osl _ _ (_ + 1) _ | some (.slice _), .osl _ _ (_ + 1) _, .nils => some false
    | some (.func _ _ _), .nilf, .nilf => some true
    | some (.func _ _ _), .nilf, .fn _ _ | some (.func _ _ _), .fn _ _, .nilf => some false
    | some (.interface _), .iface _ _, .niface => some false
    | some (.struct fs), .agg xs, .agg ys => if P.stoodInHeld t then none else
        fs.toList.foldr (fun f acc => if f.name ≠ "_" then (match opart P f.type xs f.offset, opart P f.type ys f.offset with
          | some a, some b => (match aeq P d f.type a b with | some true => acc | some false => some false | none => none)
          | _, _ => none) else acc) (some true)
    | some (.array n e), .agg xs, .agg ys => match usz P e with
      | none => none
      | some m => (List.range n).foldr (fun i acc => match opart P e xs (i * m), opart P e ys (i * m) with
          | some a, some b => (match aeq P d e a b with | some true => acc | some false => some false | none => none)
          | _, _ => none) (some true)
    | _, _, _ => none

/-- No part of the aggregate is of an interface type with methods. -/
def unguarded (P : Program) (t : TypeId) (x : V) : Prop :=
  match x with
  | .agg _ => P.eqGuardType P.depth t = false
  | _ => True

/-- What '==' may meet besides numbers and strings. -/
def V.eqable : V → Bool
  | .bool _ | .nilp | .ref _ _ | .rptr _ | .nils | .sl _ _ | .osl _ _ _ _ | .nilf | .fn _ _ | .iface _ _ | .agg _ => true
  | _ => false

def abin (P : Program) (op : BinOp) (xt : TypeId) (x y : V) (k : V → Prop) : Prop :=
  match x, y with
  | .int kd a, .int kd' b => aint op kd a kd' b k
  | .str a, .str b => astr op a b k
  | x, y => match op with
    | .eql => x.eqable = true ∧ unguarded P xt x ∧ ∃ r, aeq P 20 xt x y = some r ∧ k (.bool r)
    | .neq => x.eqable = true ∧ unguarded P xt x ∧ ∃ r, aeq P 20 xt x y = some r ∧ k (.bool (!r))
    | _ => False

def aun (op : UnOp) (x : V) (k : V → Prop) : Prop :=
  match op, x with
  | .neg, .int kd n => k (.int kd (kd.wrap (0 - n)))
  | .xor, .int kd n => k (.int kd (bits .xor kd (if kd.signed then -1 else kd.max) n))
  | .not, .bool b => k (.bool !b)
  | _, _ => False

/-! ### Operations with memory -/

abbrev KV := V → List Row → Prop

/-- The bounds of a slice expression: an absent one, or a number. -/
def abound : Option V → Nat → (Nat → Prop) → Prop
  | none, d, k => k d
  | some (.int _ n), _, k => 0 ≤ n ∧ k n.toNat
  | some _, _, _ => False

def aslice (P : Program) (t : TypeId) (x : V) (lo hi mx : Option V) (rows : List Row) (k : KV) : Prop :=
  mx = none ∧
  match x with
  | .str s => ustr P t = true ∧ abound hi s.length fun h => abound lo 0 fun l => l ≤ h ∧ h ≤ s.length ∧ k (.str ((s.drop l).take (h - l))) rows
  | .nils => (∃ e, uslice P t = some e ∧ (usz P e).isSome) ∧ abound hi 0 fun h => abound lo 0 fun l => l ≤ h ∧ h ≤ 0 ∧ k .nils rows
  | .sl n cs => ∃ e sz, uslice P t = some e ∧ usz P e = some sz ∧ abound hi n fun h => abound lo 0 fun l => l ≤ h ∧ h ≤ n ∧ k (.sl (h - l) ((cs.drop (l * sz)).take ((h - l) * sz))) rows
  | .osl id off n sz => ∃ e, uslice P t = some e ∧ usz P e = some sz ∧ abound hi n fun h => abound lo 0 fun l => l ≤ h ∧ h ≤ n ∧ k (.osl id (off + l * sz) (h - l) sz) rows
  | .ref id off => ∃ n e sz cs, uarr P t = some (n, e) ∧ usz P e = some sz ∧ rows[id]? = some (.live cs) ∧ off + n * sz ≤ cs.length ∧ cs ≠ [] ∧
      abound hi n fun h => abound lo 0 fun l => l ≤ h ∧ h ≤ n ∧ k (.osl id (off + l * sz) (h - l) sz) rows
  | _ => False

def aindexAddr (P : Program) (t : TypeId) (x ix : V) (rows : List Row) (k : KV) : Prop :=
  match ix with
  | .int _ i => (match x with
    | .sl n cs => ∃ e sz, uslice P t = some e ∧ usz P e = some sz ∧ 0 ≤ i ∧ i < n ∧ k (.rptr (cs.drop (i.toNat * sz))) rows
    | .osl id off n sz => ∃ e, uslice P t = some e ∧ usz P e = some sz ∧ 0 ≤ i ∧ i < n ∧ k (.ref id (off + i.toNat * sz)) rows
    | .ref id off => ∃ n e sz, uarr P t = some (n, e) ∧ usz P e = some sz ∧ 0 ≤ i ∧ i < n ∧ k (.ref id (off + i.toNat * sz)) rows
    | .rptr cs => ∃ n e sz, uarr P t = some (n, e) ∧ usz P e = some sz ∧ 0 ≤ i ∧ i < n ∧ k (.rptr (cs.drop (i.toNat * sz))) rows
    | _ => False)
  | _ => False

def afieldAddr (P : Program) (t : TypeId) (x : V) (f : Nat) (rows : List Row) (k : KV) : Prop :=
  ∃ ft o n, ufield P t f = some (ft, o) ∧ usz P ft = some (n + 1) ∧
    match x with
    | .ref id off => k (.ref id (off + o)) rows
    | .rptr cs => k (.rptr (cs.drop o)) rows
    | _ => False

def afield (P : Program) (t : TypeId) (x : V) (f : Nat) (k : V → Prop) : Prop :=
  match x with
  | .agg cs => ∃ ft o, ufield P t f = some (ft, o) ∧ apart P ft cs o k
  | _ => False

def aindex (P : Program) (t : TypeId) (x ix : V) (k : V → Prop) : Prop :=
  match ix with
  | .int _ i => (match x with
    | .agg cs => ∃ n e sz, uarr P t = some (n, e) ∧ usz P e = some sz ∧ 0 ≤ i ∧ i < n ∧ apart P e cs (i.toNat * sz) k
    | .str s => ustr P t = true ∧ 0 ≤ i ∧ ∃ b, s[i.toNat]? = some b ∧ k (.int .u8 b.toNat)
    | _ => False)
  | _ => False

def acells (P : Program) (t : TypeId) (cs : List V) (off : Nat) (k : V → Prop) : Prop :=
  match uagg P t with
  | some true => ∃ n, usz P t = some n ∧ off + n ≤ cs.length ∧ k (.agg ((cs.drop off).take n))
  | some false => ∃ v, cs[off]? = some v ∧ k v
  | none => False

def aload (P : Program) (t : TypeId) (x : V) (rows : List Row) (k : KV) : Prop :=
  match x with
  | .ref id off => ∃ cs, rows[id]? = some (.live cs) ∧ cs ≠ [] ∧ acells P t cs off fun v => k v rows
  | .rptr cs => acells P t cs 0 fun v => k v rows
  | _ => False

def astore (P : Program) (t : TypeId) (x v : V) (rows : List Row) (k : KV) : Prop :=
  match x with
  | .ref id off => ∃ cs vs n, rows[id]? = some (.live cs) ∧ cs ≠ [] ∧ vcells v = some vs ∧ usz P t = some n ∧ vs.length = n ∧ off + n ≤ cs.length ∧ (∀ c ∈ vs, c.one = true) ∧
      k .junk (rows.set id (.live (lput cs off vs)))
  | _ => False

def abox (v : V) (id : Nat) (rows : List Row) (k : KV) : Prop :=
  ∃ vs, vcells v = some vs ∧ Free rows id ∧ k (.ref id 0) (rput rows id (.live vs))

/-- Parts laid into cells. -/
def afill (place : Nat → Option (Nat × Nat)) (ρ : Operand → V) : List (Nat × Operand) → List V → (List V → Prop) → Prop
  | [], cs, k => k cs
  | (i, x) :: r, cs, k => ∃ off sz vs, place i = some (off, sz) ∧ vcells (ρ x) = some vs ∧ vs.length = sz ∧ off + sz ≤ cs.length ∧ afill place ρ r (lput cs off vs) k

def abuild (P : Program) (t : TypeId) (ρ : Operand → V) (parts : List (Nat × Operand)) (k : V → Prop) : Prop :=
  ∃ z, uzero P t = some z ∧ (uplaces P t).isSome = true ∧ afill (uplace P t) ρ parts z fun cs => k (.agg cs)

def zeros (n : Nat) (z : List V) : List V := (List.replicate n z).flatten

def abuildSlice (P : Program) (t : TypeId) (len : Nat) (ρ : Operand → V) (parts : List (Nat × Operand)) (id : Nat) (rows : List Row) (k : KV) : Prop :=
  ∃ e sz z, uslice P t = some e ∧ usz P e = some sz ∧ uzero P e = some z ∧ z.length = sz ∧ len * sz ≤ 16777216 ∧ Free rows id ∧
    afill (fun i => some (i * sz, sz)) ρ parts (zeros len z) fun cs => k (.osl id 0 len sz) (rput rows id (.live cs))

def amakeSlice (P : Program) (t : TypeId) (l c : V) (id : Nat) (rows : List Row) (k : KV) : Prop :=
  match l, c with
  | .int _ l, .int _ c => ∃ e sz by' z, uslice P t = some e ∧ usz P e = some sz ∧ ubytes P e = some by' ∧ uzero P e = some z ∧ z.length = sz ∧ 0 ≤ l ∧ l ≤ c ∧ c ≤ 4611686018427387904 ∧ by' * c ≤ 281474976710656 ∧ Free rows id ∧
      k (.osl id 0 l.toNat sz) (rput rows id (.live (zeros c.toNat z)))
  | _, _ => False

def sliceCells (cs : List V) (off m : Nat) : List V := (cs.drop off).take m

/-- The cells that a slice or a string shows. -/
def ashown (sz : Nat) (x : V) (rows : List Row) (k : Nat → List V → Prop) : Prop :=
  match x with
  | .nils => k 0 []
  | .sl n cs => cs.length = n * sz ∧ k n cs
  | .osl id off n sz' => sz' = sz ∧ ∃ cs, rows[id]? = some (.live cs) ∧ off + n * sz ≤ cs.length ∧ k n (sliceCells cs off (n * sz))
  | .str s => sz = 1 ∧ k s.length (s.map byteV)
  | _ => False

def aconv (P : Program) (s d : TypeId) (x : V) (id : Nat) (rows : List Row) (k : KV) : Prop :=
  match x with
  | .int _ n => ∃ kd, uint P d = some kd ∧ (P.underlying s).isSome = true ∧ k (.int kd (kd.wrap n)) rows
  | .str l => (P.underlying s).isSome = true ∧ if ustr P d then k x rows else
      ∃ e, uslice P d = some e ∧ uint P e = some .u8 ∧ Free rows id ∧ k (.osl id 0 l.length 1) (rput rows id (.live (l.map byteV)))
  | _ => ustr P d = true ∧ (∃ e, uslice P s = some e ∧ uint P e = some .u8) ∧ ashown 1 x rows fun _ cs => (∀ c ∈ cs, c.isByte = true) ∧ k (.str (cs.map toByte)) rows

def aappend (P : Program) (t : TypeId) (s x : V) (id : Nat) (rows : List Row) (k : KV) : Prop :=
  ∃ e sz by' z, uslice P t = some e ∧ usz P e = some sz ∧ ubytes P e = some by' ∧ uzero P e = some z ∧ z.length = sz ∧
    ashown sz x rows fun m new => (∀ c ∈ new, c.one = true) ∧
    match s with
    | .nils => m * by' ≤ 140737488355328 ∧ m ≤ 1099511627776 ∧ Free rows id ∧ k (.osl id 0 m sz) (rput rows id (.live new))
    | .osl id0 off n sz' => sz' = sz ∧ (n + m) * by' ≤ 140737488355328 ∧ n + m ≤ 1099511627776 ∧ Free rows id ∧ ∃ cs, rows[id0]? = some (.live cs) ∧ off + n * sz ≤ cs.length ∧
        k (.osl id 0 (n + m) sz) (rput (rows.set id0 .dead) id (.live (sliceCells cs off (n * sz) ++ new)))
    | _ => False

def alen (P : Program) (t : TypeId) (x : V) (k : V → Prop) : Prop :=
  match x with
  | .str s => ustr P t = true ∧ k (.int .i64 s.length)
  | .nils => (uslice P t).isSome = true ∧ k (.int .i64 0)
  | .sl n _ => (uslice P t).isSome = true ∧ k (.int .i64 n)
  | .osl _ _ n _ => (uslice P t).isSome = true ∧ k (.int .i64 n)
  | _ => ∃ n e, uarr P t = some (n, e) ∧ k (.int .i64 n)

def acopy (P : Program) (t : TypeId) (d x : V) (rows : List Row) (k : KV) : Prop :=
  match d with
  | .osl id off n sz => ∃ e cs, uslice P t = some e ∧ usz P e = some sz ∧ rows[id]? = some (.live cs) ∧ cs ≠ [] ∧ off + n * sz ≤ cs.length ∧
      ashown sz x rows fun m new => m ≤ n ∧ (∀ c ∈ new, c.one = true) ∧ k (.int .i64 m) (rows.set id (.live (lput cs off new)))
  | _ => False

def aminmax (mx : Bool) : List V → (V → Prop) → Prop
  | [.int kd a, .int kd' b], k => kd = kd' ∧ k (.int kd (if mx then (if a < b then b else a) else (if b < a then b else a)))
  | [.int kd a, .int kd' b, .int kd'' c], k => kd = kd' ∧ kd' = kd'' ∧ k (.int kd (if mx then (if (if a < b then b else a) < c then c else (if a < b then b else a)) else (if c < (if b < a then b else a) then c else (if b < a then b else a))))
  | _, _ => False

def abuiltin (P : Program) (b : Builtin) (ts : Array TypeId) (args : List V) (id : Nat) (rows : List Row) (k : KV) : Prop :=
  match b, args with
  | .len, [x] => ∃ t, ts[0]? = some t ∧ alen P t x fun v => k v rows
  | .append, [s, x] => ∃ t t', ts[0]? = some t ∧ ts[1]? = some t' ∧ ((uslice P t').isSome = true ∨ ustr P t' = true) ∧ aappend P t s x id rows k
  | .copy, [d, x] => ∃ t, ts[0]? = some t ∧ acopy P t d x rows k
  | .min, args => aminmax false args fun v => k v rows
  | .max, args => aminmax true args fun v => k v rows
  | _, _ => False

end Go.VS
