/- A part of the proof of InferUses, second form: for every input of bulk at most 1048576 the call returns true and the arguments read as they did. Its condition: that bulk. -/
import Derived.RangeFuncIn
import Derived.OrdersIn
import Derived.Laws.Cells
import Derived.Laws.CopyRow
/- The abstract machine: values, memory, the effect of one operation. Nothing here speaks of the model's world. -/
namespace Go.Dv
/-- Deep data: what is never written any more. -/
inductive DV where
 | bool (b : Bool)
 | int (k : IntKind) (n : Int)
 | str (s : List UInt8)
 | nilptr | nilslice | nilmap | nilfunc | niliface
 | imm (cells : List DV) (len : Nat)
 | iptr (cells : List DV)
 | agg (cells : List DV)
 | fn (f : FuncId)
 | iface (t : TypeId) (v : DV)
 deriving Inhabited
/-- A value: deep data, or what leads into memory that may be written. -/
inductive AV where
 | d (x : DV)
 | ptr (id off ver : Nat)
 | msl (id off len ver sz : Nat)
 | lptr (key off : Nat)
 | map (id : Nat)
 | clo (f : FuncId) (first captured : List AV)
 | yld (id : Nat)
 | iface (t : TypeId) (v : AV)
 | agg (cells : List AV)
 | tuple (vs : List AV)
 deriving Inhabited
def AV.toD? : AV → Option DV
 | .d x => some x
 | _ => none
def allD : List AV → Option (List DV)
 | [] => some []
 | .d x :: r => match allD r with
  | some l => some (x :: l)
  | none => none
 | _ :: _ => none
def mkAgg (cs : List AV) : AV :=
 match allD cs with
 | some ds => .d (.agg ds)
 | none => .agg cs
def dcells : DV → List DV
 | .agg cs => cs
 | v => [v]
def AV.cells : AV → List AV
 | .d (.agg cs) => cs.map .d
 | .agg cs => cs
 | v => [v]
def AV.isL : AV → Bool
 | .lptr .. => true
 | _ => false
def DV.isAgg : DV → Bool
 | .agg _ => true
 | _ => false
/-- May it lie in one cell of shared memory? -/
def AV.isCell : AV → Bool
 | .d (.agg _) => false
 | .agg _ => false
 | .tuple _ => false
 | .lptr .. => false
 | _ => true
inductive TK where
 | int (k : IntKind) | string | bool
 | pointer (e : TypeId) | slice (e : TypeId) | array (n : Nat) (e : TypeId)
 | struct (fs : List (Nat × Nat × Bool))
 | map (k e : TypeId)
 | func | iface | unsafePointer | other
 deriving Inhabited
structure TI where
 k : TK
 size : Nat
 agg : Bool
 bytes : Nat
 zero : List DV
 deriving Inhabited
/-- How a region that draws its order is run: in this order; which operations write (bits); how many of them make local variables first; which values are asked again where; what must come before each (bits). -/
structure DPlan where
 ord : List Nat
 wr : Nat := 0
 nA : Nat := 0
 fl : List (Nat × Nat) := []
 cl : List Nat := []
 deriving Inhabited
structure FAnn where
 keep : List Nat := []
 heap : List Nat := []
 marr : List Nat := []
 frz : List Nat := []
 closed : Bool := false
 draws : List (Nat × DPlan) := []
 deriving Inhabited
/-- What a round of a range over a function needs. -/
structure LoopR where
 state : LoopState
 pending : Option Code
 fn : FuncId
 env : List (Nat × AV)
 params : Array Tmp
 assign : Code
 body : Code
 n : Nat
 deriving Inhabited
inductive Obj where
 | cells (cs : List AV) (ver : Nat)
 | map (es : List (DV × AV))
 | loop (l : LoopR)
 deriving Inhabited
def Obj.ver : Obj → Nat
 | .cells _ v => v
 | _ => 0
abbrev Env := Nat → Option AV
abbrev Loc := Nat → Option (List AV)
structure Hp where
 next : Nat
 get : Nat → Option Obj
 ty : Nat → Option (TypeId × Nat)
 el : Nat → Option TypeId
def upd {α : Type} (f : Nat → Option α) (k : Nat) (v : α) : Nat → Option α := fun i => if i = k then some v else f i
def del {α : Type} (f : Nat → Option α) (k : Nat) : Nat → Option α := fun i => if i = k then none else f i
def Hp.set (h : Hp) (id : Nat) (o : Obj) : Hp := { h with get := upd h.get id o }
def Hp.del (h : Hp) (id : Nat) : Hp := { h with get := Dv.del h.get id }
def Hp.alloc (h : Hp) (o : Obj) : Hp := { next := h.next + 1, get := upd h.get h.next o, ty := h.ty, el := Dv.del h.el h.next }
def Hp.empty : Hp := { next := 0, get := fun _ => none, ty := fun _ => none, el := fun _ => none }
/-- An object has grown, by elements of a type. -/
def Hp.keepEl (h : Hp) (id : Nat) (e : TypeId) : Nat → Option TypeId := if h.el id = some e then h.el else Dv.del h.el id
/-- Deep data out of a value: the rows of the machine's own that it leads to are taken out of the memory that may be written. -/
def frzL (f : Hp → AV → Option (DV × Hp)) : Hp → List AV → Option (List DV × Hp)
 | h, [] => some ([], h)
 | h, x :: r => match f h x with
  | some (d, h') => match frzL f h' r with
   | some (ds, h'') => some (d :: ds, h'')
   | none => none
  | none => none
def takeExact {α : Type} (n off : Nat) (l : List α) : Option (List α) :=
 let r := (l.drop off).take n
 if r.length = n then some r else none
def frzV : Nat → Hp → AV → Option (DV × Hp)
 | 0, _, _ => none
 | n + 1, h, x => match x with
  | .d y => some (y, h)
  | .agg cs => match frzL (frzV n) h cs with
   | some (ds, h') => some (.agg ds, h')
   | none => none
  | .msl id off len ver sz => match h.get id with
   | some (.cells cs v) => if v = ver then match takeExact (len * sz) off cs with
     | some r => match frzL (frzV n) (h.del id) r with
      | some (ds, h') => some (.imm ds len, h')
      | none => none
     | none => none
    else none
   | _ => none
  | _ => none
/-- The program, its types as a table, the notes on its functions, the cells of the variables that are read. -/
structure Ctx where
 P : Program
 T : TypeId → Option TI
 A : FuncId → FAnn
 G : Nat → Option (List DV)
 E : TypeId → Option (List TK)
/-- What an operation does. -/
inductive Eff where
 | val (v : AV)
 | skip
 | newL (cells : List AV)
 | setL (key : Nat) (cells : List AV)
 | newCells (cs : List AV) (len sz : Nat) (e : TypeId)
 | grow (id : Nat) (cs : List AV) (ver : Nat) (v : AV) (e : TypeId)
 | newVar (cs : List AV) (t : TypeId)
 | newMap
 | setH (id : Nat) (o : Obj) (v : Option AV)
 | frz (id : Nat) (v : AV)
 | call (f : FuncId) (args : List AV)
 | yield (id : Nat) (args : List AV)
 | panic (v : AV)
def ofConst : Value → Option AV
 | .bool b => some (.d (.bool b))
 | .int k n => some (.d (.int k n))
 | .string s => some (.d (.str s.data.toList))
 | .pointer none => some (.d .nilptr)
 | .slice none 0 0 => some (.d .nilslice)
 | .map none => some (.d .nilmap)
 | .nilFunc => some (.d .nilfunc)
 | .nilIface => some (.d .niliface)
 | _ => none
def rho (C : Ctx) (env : Env) : Operand → Option AV
 | .tmp t => env t
 | .const v => ofConst v
 | .global g => (C.G g).map fun cs => .d (.iptr cs)
 | .func f => some (.d (.fn f))
/-- A variable of so many cells out of a row of cells. -/
def oneOf (agg : Bool) (cs : List AV) : Option AV :=
 if agg then some (mkAgg cs) else match cs with
  | [c] => some c
  | _ => none
def oneOfD (agg : Bool) (cs : List DV) : Option AV :=
 if agg then some (.d (.agg cs)) else match cs with
  | [c] => some (.d c)
  | _ => none
def putAt {α : Type} (l : List α) (off : Nat) (new : List α) : List α := l.take off ++ new ++ l.drop (off + new.length)
def intOf? : AV → Option (IntKind × Int)
 | .d (.int k n) => some (k, n)
 | _ => none
def boolOf? : AV → Option Bool
 | .d (.bool b) => some b
 | _ => none
def vbool (b : Bool) : AV := .d (.bool b)
def vint (n : Int) : AV := .d (.int .i64 n)
def intBin (op : BinOp) (k : IntKind) (a b : Int) : Option AV :=
 match op with
 | .add => some (.d (.int k (k.wrap (a + b))))
 | .sub => some (.d (.int k (k.wrap (a - b))))
 | .mul => some (.d (.int k (k.wrap (a * b))))
 | .quo => if b = 0 then none else some (.d (.int k (k.wrap (a.tdiv b))))
 | .rem => if b = 0 then none else some (.d (.int k (a.tmod b)))
 | .and => some (.d (.int k (k.wrap ((BitVec.ofInt k.bits a) &&& (BitVec.ofInt k.bits b)).toNat)))
 | .or => some (.d (.int k (k.wrap ((BitVec.ofInt k.bits a) ||| (BitVec.ofInt k.bits b)).toNat)))
 | .eql => some (vbool (a == b))
 | .neq => some (vbool (a != b))
 | .lss => some (vbool (decide (a < b)))
 | .leq => some (vbool (decide (a ≤ b)))
 | .gtr => some (vbool (decide (a > b)))
 | .geq => some (vbool (decide (a ≥ b)))
 | _ => none
def strBin (op : BinOp) (a b : List UInt8) : Option AV :=
 match op with
 | .add => if a.length + b.length ≤ 2 ^ 40 then some (.d (.str (a ++ b))) else none
 | .eql => some (vbool (a == b))
 | .neq => some (vbool (!(a == b)))
 | .lss => some (vbool (Op.bytesLess a b))
 | .leq => some (vbool (Op.bytesLess a b || a == b))
 | .gtr => some (vbool (!(Op.bytesLess a b || a == b)))
 | .geq => some (vbool (!(Op.bytesLess a b)))
 | _ => none
/-- '==' of two scalars of one kind. -/
def scalEq : DV → DV → Option Bool
 | .int k a, .int k' b => if k = k' then some (a == b) else none
 | .str a, .str b => some (a == b)
 | .bool a, .bool b => some (a == b)
 | _, _ => none
def scalsEq : List DV → List DV → Option Bool
 | [], [] => some true
 | a :: r, b :: s => match scalEq a b with
  | some true => scalsEq r s
  | some false => some false
  | none => none
 | _, _ => none
/-- Is a value of this kind nil? -/
def nilOf : TK → AV → Option Bool
 | .pointer _, .d .nilptr => some true
 | .pointer _, .d (.iptr _) => some false
 | .pointer _, .ptr .. => some false
 | .pointer _, .lptr .. => some false
 | .slice _, .d .nilslice => some true
 | .slice _, .d (.imm _ _) => some false
 | .slice _, .msl .. => some false
 | .map _ _, .d .nilmap => some true
 | .map _ _, .map _ => some false
 | .func, .d .nilfunc => some true
 | .func, .d (.fn _) => some false
 | .func, .clo .. => some false
 | .func, .yld _ => some false
 | .iface, .d .niliface => some true
 | .iface, .d (.iface _ _) => some false
 | .iface, .iface _ _ => some false
 | _, _ => none
def isNilConst : Operand → Bool
 | .const (.pointer none) => true
 | .const (.slice none 0 0) => true
 | .const (.map none) => true
 | .const .nilFunc => true
 | .const .nilIface => true
 | _ => false
def isKey : DV → Bool
 | .int .. => true
 | .str _ => true
 | _ => false
end Go.Dv
/- The abstract machine: what one operation does. -/
namespace Go.Dv
section
variable (C : Ctx) (A : FAnn) (ρ : Operand → Option AV) (L : Loc) (H : Nat → Option Obj)
/-- A variable of type t at a pointer. -/
def loadA (t : TypeId) : AV → Option AV
 | .d (.iptr cs) => match C.T t with
  | some ti => match takeExact ti.size 0 cs with
   | some r => oneOfD ti.agg r
   | none => none
  | none => none
 | .lptr key off => match C.T t, L key with
  | some ti, some cs => match takeExact ti.size off cs with
   | some r => oneOf ti.agg r
   | none => none
  | _, _ => none
 | .ptr id off ver => match C.T t, H id with
  | some ti, some (.cells cs v) => if v = ver then match takeExact ti.size off cs with
    | some r => oneOf ti.agg r
    | none => none
   else none
  | _, _ => none
 | _ => none
def storeA (t : TypeId) (p x : AV) : Option Eff :=
 match C.T t with
 | none => none
 | some ti =>
  let new := x.cells
  if new.length ≠ ti.size ∨ x.isL ∨ !(new.all AV.isCell) then none else
  match p with
  | .lptr key off => match L key with
   | some cs => if off + new.length ≤ cs.length then some (.setL key (putAt cs off new)) else none
   | none => none
  | .ptr id off ver => match H id with
   | some (.cells cs v) => if v = ver ∧ off + new.length ≤ cs.length then some (.setH id (.cells (putAt cs off new) v) none) else none
   | _ => none
  | _ => none
def fieldOf (s : TypeId) (f : Nat) : Option (Nat × Nat × Bool) :=
 match C.T s with
 | some { k := .struct fs, .. } => fs[f]?
 | _ => none
def shiftP (n : Nat) : AV → Option AV
 | .d (.iptr cs) => some (.d (.iptr (cs.drop n)))
 | .lptr key off => some (.lptr key (off + n))
 | .ptr id off ver => some (.ptr id (off + n) ver)
 | _ => none
def fieldAddrA (s : TypeId) (f : Nat) (p : AV) : Option AV :=
 match fieldOf C s f with
 | some (off, _, _) => shiftP off p
 | none => none
def fieldA (s : TypeId) (f : Nat) : AV → Option AV
 | .d (.agg cs) => match fieldOf C s f with
  | some (off, size, agg) => match takeExact size off cs with
   | some r => oneOfD agg r
   | none => none
  | none => none
 | .agg cs => match fieldOf C s f with
  | some (off, size, agg) => match takeExact size off cs with
   | some r => oneOf agg r
   | none => none
  | none => none
 | _ => none
/-- The number of cells of one element of a slice's or an array's type. -/
def elemSize (t : TypeId) : Option Nat :=
 match C.T t with
 | some { k := .slice e, .. } => (C.T e).map (·.size)
 | some { k := .array _ e, .. } => (C.T e).map (·.size)
 | _ => none
def indexAddrA (t : TypeId) (x ix : AV) : Option AV :=
 match intOf? ix, C.T t with
 | some (_, i), some { k := .slice e, .. } => match C.T e with
  | none => none
  | some ei => match x with
   | .d (.imm cs len) => if 0 ≤ i ∧ i < len then some (.d (.iptr (cs.drop (i.toNat * ei.size)))) else none
   | .msl id off len ver sz => if sz = ei.size ∧ 0 ≤ i ∧ i < len then some (.ptr id (off + i.toNat * ei.size) ver) else none
   | _ => none
 | some (_, i), some { k := .array n e, .. } => match C.T e with
  | none => none
  | some ei => if 0 ≤ i ∧ i < n then shiftP (i.toNat * ei.size) x else none
 | _, _ => none
def indexA (t : TypeId) (x ix : AV) : Option AV :=
 match intOf? ix, C.T t, x with
 | some (_, i), some { k := .string, .. }, .d (.str s) => if 0 ≤ i then match s[i.toNat]? with
   | some b => some (.d (.int .u8 b.toNat))
   | none => none
  else none
 | some (_, i), some { k := .array n e, .. }, .d (.agg cs) => match C.T e with
  | none => none
  | some ei => if 0 ≤ i ∧ i < n then match takeExact ei.size (i.toNat * ei.size) cs with
    | some r => oneOfD ei.agg r
    | none => none
   else none
 | some (_, i), some { k := .array n e, .. }, .agg cs => match C.T e with
  | none => none
  | some ei => if 0 ≤ i ∧ i < n then match takeExact ei.size (i.toNat * ei.size) cs with
    | some r => oneOf ei.agg r
    | none => none
   else none
 | _, _, _ => none
/-- Bounds of a slice expression: from, up to. -/
def bounds (len cap : Nat) (lo hi : Option AV) : Option (Nat × Nat) :=
 match (match hi with | none => some len | some v => match intOf? v with
   | some (_, i) => if 0 ≤ i ∧ i ≤ cap then some i.toNat else none
   | none => none) with
 | none => none
 | some h => match lo with
  | none => some (0, h)
  | some v => match intOf? v with
   | some (_, i) => if 0 ≤ i ∧ i ≤ h then some (i.toNat, h) else none
   | none => none
/-- A slice expression without a third index; of a slice: up to its length alone. -/
def sliceA (t : TypeId) (x : AV) (lo hi : Option AV) : Option AV :=
 match C.T t, x with
 | some { k := .string, .. }, .d (.str s) => match bounds s.length s.length lo hi with
  | some (l, h) => some (.d (.str ((s.take h).drop l)))
  | none => none
 | some { k := .slice e, .. }, .d (.imm cs len) => match C.T e, bounds len len lo hi with
  | some ei, some (l, h) => some (.d (.imm ((cs.take (h * ei.size)).drop (l * ei.size)) (h - l)))
  | _, _ => none
 | some { k := .slice e, .. }, .msl id off len ver sz => match C.T e, bounds len len lo hi with
  | some ei, some (l, h) => if sz = ei.size then (if l = h ∧ 0 < l then some (.d (.imm [] 0)) else some (.msl id (off + l * ei.size) (h - l) ver sz)) else none
  | _, _ => none
 | some { k := .slice e, .. }, .d .nilslice => match C.T e, bounds 0 0 lo hi with
  | some _, some _ => some (.d .nilslice)
  | _, _ => none
 | _, _ => none
/-- The cells of a slice's elements, or of a string's bytes. -/
def elemsOf (sz : Nat) : AV → Option (List AV)
 | .d .nilslice => some []
 | .d (.imm cs len) => match takeExact (len * sz) 0 cs with
  | some r => some (r.map .d)
  | none => none
 | .d (.str s) => if sz = 1 then some (s.map fun b => .d (.int .u8 b.toNat)) else none
 | .msl id off len ver sz' => match H id with
  | some (.cells cs v) => if v = ver ∧ sz' = sz then takeExact (len * sz) off cs else none
  | _ => none
 | _ => none
def lenA : AV → Option Nat
 | .d .nilslice => some 0
 | .d (.imm _ len) => some len
 | .d (.str s) => some s.length
 | .msl _ _ len _ _ => some len
 | .d .nilmap => some 0
 | .map id => match H id with
  | some (.map es) => some es.length
  | _ => none
 | _ => none
def appendable : TK → Bool
 | .slice _ => true
 | .string => true
 | _ => false
def plainKind : TK → Bool
 | .int _ => true
 | .string => true
 | .bool => true
 | .pointer _ => true
 | .slice _ => true
 | .array _ _ => true
 | .struct _ => true
 | .map _ _ => true
 | .func => true
 | _ => false
/-- A value whose length is asked, at its type. -/
def lenKind (t : TypeId) (x : AV) : Bool :=
 match C.T t with
 | some { k := .slice _, .. } => match x with
  | .d .nilslice => true
  | .d (.imm _ _) => true
  | .msl .. => true
  | _ => false
 | some { k := .string, .. } => match x with
  | .d (.str _) => true
  | _ => false
 | some { k := .map _ _, .. } => match x with
  | .d .nilmap => true
  | .map _ => true
  | _ => false
 | _ => false
/-- append: the base is nil or the tip of an array of the machine's own, from its beginning on. -/
def appendA (t : TypeId) (t2 : Option TypeId) (s x : AV) : Option Eff :=
 match C.T t, t2.bind C.T with
 | some { k := .slice e, .. }, some t2i => match C.T e with
  | none => none
  | some ei => match lenA H x, elemsOf H ei.size x with
   | some n, some new =>
    if !(new.all AV.isCell) ∨ 2 ^ 44 < n ∨ 2 ^ 44 < n * ei.bytes ∨ 2 ^ 16 < ei.bytes ∨ !(appendable t2i.k) ∨ new.length ≠ n * ei.size then none else
    match s with
    | .d .nilslice => if n = 0 then some (.val (.d .nilslice)) else some (.newCells new n ei.size e)
    | .msl id off len ver sz => match H id with
     | some (.cells cs v) =>
      if v = ver ∧ sz = ei.size ∧ off = 0 ∧ len * sz ≤ cs.length ∧ len + n ≤ 2 ^ 44 ∧ (len + n) * ei.bytes ≤ 2 ^ 44 then
       some (.grow id (cs.take (len * sz) ++ new) (ver + 1) (.msl id 0 (len + n) (ver + 1) sz) e)
      else none
     | _ => none
    | _ => none
   | _, _ => none
 | _, _ => none
def fillA (place : Nat → Option (Nat × Nat)) (cells : List AV) : List (Nat × AV) → Option (List AV)
 | [] => some cells
 | (i, v) :: rest => match place i with
  | none => none
  | some (off, size) =>
   let new := v.cells
   if new.length ≠ size ∨ cells.length < off + new.length ∨ !(new.all AV.isCell) then none
   else fillA place (putAt cells off new) rest
def evalAll : List (Nat × Operand) → Option (List (Nat × AV))
 | [] => some []
 | (i, x) :: r => match ρ x, evalAll r with
  | some v, some l => some ((i, v) :: l)
  | _, _ => none
def evalArgs : List Operand → Option (List AV)
 | [] => some []
 | x :: r => match ρ x, evalArgs r with
  | some v, some l => if v.isL then none else some (v :: l)
  | _, _ => none
def zeroA (t : TypeId) : Option (List AV) := (C.T t).map fun ti => ti.zero.map .d
def repeatL {α : Type} (l : List α) : Nat → List α
 | 0 => []
 | n + 1 => l ++ repeatL l n
def buildA (t : TypeId) (parts : List (Nat × AV)) : Option AV :=
 match C.T t with
 | some { k := .struct fs, zero := z, .. } => match fillA (fun i => (fs[i]?).map fun f => (f.1, f.2.1)) (z.map .d) parts with
  | some cs => some (mkAgg cs)
  | none => none
 | some { k := .array _ e, zero := z, .. } => match C.T e with
  | some ei => match fillA (fun i => some (i * ei.size, ei.size)) (z.map .d) parts with
   | some cs => some (mkAgg cs)
   | none => none
  | none => none
 | _ => none
def buildSliceA (t : TypeId) (len : Nat) (parts : List (Nat × AV)) : Option (TypeId × Nat × List AV) :=
 match C.T t with
 | some { k := .slice e, .. } => match C.T e with
  | some ei => if 2 ^ 24 < len * ei.size then none else
   match fillA (fun i => some (i * ei.size, ei.size)) (repeatL (ei.zero.map .d) len) parts with
   | some cs => some (e, ei.size, cs)
   | none => none
  | none => none
 | _ => none
/-- The first entry of a key. -/
def findE (k : DV) : List (DV × AV) → Option (Option AV)
 | [] => some none
 | (a, v) :: r => match scalEq k a with
  | some true => some (some v)
  | some false => findE k r
  | none => none
def putE (k : DV) (x : AV) : List (DV × AV) → Option (List (DV × AV))
 | [] => some [(k, x)]
 | (a, v) :: r => match scalEq k a with
  | some true => some ((k, x) :: r)
  | some false => (putE k x r).map ((a, v) :: ·)
  | none => none
def delE (k : DV) : List (DV × AV) → Option (List (DV × AV))
 | [] => some []
 | (a, v) :: r => match scalEq k a with
  | some true => some r
  | some false => (delE k r).map ((a, v) :: ·)
  | none => none
def keyOk (kt : TypeId) (kd : DV) : Bool :=
 match C.T kt, kd with
 | some { k := .int _, .. }, .int .. => true
 | some { k := .string, .. }, .str _ => true
 | _, _ => false
def entriesA : AV → Option (List (DV × AV))
 | .d .nilmap => some []
 | .map id => match H id with
  | some (.map es) => some es
  | _ => none
 | _ => none
def lookupA (t : TypeId) (ok : Bool) (x k : AV) : Option AV :=
 match C.T t, k with
 | some { k := .map kt e, .. }, .d kd => match C.T e, entriesA H x with
  | some ei, some es => if keyOk C kt kd then match findE kd es with
    | some (some v) => some (if ok then .tuple [v, vbool true] else v)
    | some none => match oneOfD ei.agg ei.zero with
     | some v => some (if ok then .tuple [v, vbool false] else v)
     | none => none
    | none => none
   else none
  | _, _ => none
 | _, _ => none
def mapUpdateA (t : TypeId) (m k x : AV) : Option Eff :=
 match C.T t, m, k with
 | some { k := .map kt _, .. }, .map id, .d kd => match H id with
  | some (.map es) => if !(keyOk C kt kd) ∨ x.isL then none else match putE kd x es with
   | some es' => some (.setH id (.map es') none)
   | none => none
  | _ => none
 | _, _, _ => none
def deleteA (t : TypeId) (m k : AV) : Option Eff :=
 match C.T t, m, k with
 | some { k := .map kt _, .. }, .map id, .d kd => match H id with
  | some (.map es) => if !(keyOk C kt kd) then none else match delE kd es with
   | some es' => some (.setH id (.map es') (some (.tuple [])))
   | none => none
  | _ => none
 | _, _, _ => none
def bytesOfCells : List AV → Option (List UInt8)
 | [] => some []
 | .d (.int .u8 n) :: r => match bytesOfCells r with
  | some l => some (UInt8.ofNat n.toNat :: l)
  | none => none
 | _ :: _ => none
def isSl : AV → Bool
 | .d .nilslice => true
 | .d (.imm _ _) => true
 | .msl .. => true
 | _ => false
def bytesA (x : AV) : Option (List UInt8) :=
 match lenA H x, elemsOf H 1 x with
 | some k, some cs => if cs.length = k then bytesOfCells cs else none
 | _, _ => none
def convertA (src dst : TypeId) (x : AV) : Option Eff :=
 match C.T src, C.T dst, x with
 | some { k := .int _, .. }, some { k := .int k, .. }, .d (.int _ n) => some (.val (.d (.int k (k.wrap n))))
 | some { k := .string, .. }, some { k := .string, .. }, .d (.str s) => some (.val (.d (.str s)))
 | some { k := .string, .. }, some { k := .slice e, .. }, .d (.str s) => match C.T e with
  | some { k := .int .u8, .. } => some (.val (.d (.imm (s.map fun b => .int .u8 b.toNat) s.length)))
  | _ => none
 | some { k := .slice e, .. }, some { k := .string, .. }, x => match C.T e with
  | some { k := .int .u8, .. } => if isSl x then match bytesA H x with
    | some l => some (.val (.d (.str l)))
    | none => none
   else none
  | _ => none
 | _, _, _ => none
def fitK : TK → DV → Bool
 | .int _, .int _ _ => true
 | .string, .str _ => true
 | .bool, .bool _ => true
 | _, _ => false
def fitAll : List TK → List DV → Bool
 | [], [] => true
 | k :: r, x :: s => fitK k x && fitAll r s
 | _, _ => false
def binA (op : BinOp) (t : TypeId) (x y : Operand) (a b : AV) : Option AV :=
 match a, b with
 | .d (.int k m), .d (.int k' n) => match op with
  | .shl => if n < 0 then none else some (.d (.int k (k.wrap (m * 2 ^ (min n.toNat k.bits)))))
  | .shr => if n < 0 then none else some (.d (.int k (m.fdiv (2 ^ (min n.toNat k.bits)))))
  | _ => if k = k' then intBin op k m n else none
 | .d (.str s), .d (.str s') => strBin op s s'
 | .d (.bool p), .d (.bool q) => match C.T t with
  | some { k := .bool, .. } => match op with
   | .eql => some (vbool (p == q))
   | .neq => some (vbool (!(p == q)))
   | _ => none
  | _ => none
 | .d (.agg cs), .d (.agg ds) => match C.E t with
  | some ks =>
   if fitAll ks cs ∧ fitAll ks ds then
    match scalsEq cs ds, op with
    | some r, .eql => some (vbool r)
    | some r, .neq => some (vbool (!r))
    | _, _ => none
   else none
  | none => none
 | .ptr i o v, .ptr i' o' v' =>
  if i = i' ∧ o = o' ∧ v = v' then match C.T t with
   | some { k := .pointer e, .. } => match C.T e with
    | some _ => match op with
     | .eql => some (vbool true)
     | .neq => some (vbool false)
     | _ => none
    | none => none
   | _ => none
  else none
 | _, _ =>
  if isNilConst x || isNilConst y then
   match C.T t with
   | none => none
   | some ti => match nilOf ti.k a, nilOf ti.k b with
    | some p, some q => if p || q then match op with
      | .eql => some (vbool (p && q))
      | .neq => some (vbool (!(p && q)))
      | _ => none
     else none
    | _, _ => none
  else none
def unA (op : UnOp) : AV → Option AV
 | .d (.bool b) => match op with
  | .not => some (vbool (!b))
  | _ => none
 | .d (.int k n) => match op with
  | .neg => some (.d (.int k (k.wrap (0 - n))))
  | _ => none
 | _ => none
def callValA (f : AV) (args : List AV) : Option Eff :=
 match f with
 | .d (.fn g) => some (.call g args)
 | .clo g first cap => some (.call g (first ++ args ++ cap))
 | .yld id => some (.yield id args)
 | _ => none
/-- What an operation that writes slot 'dst' does. -/
def opA (o : Oper) : Option Eff :=
 match o.op with
 | .move x | .assign x => (ρ x).map .val
 | .pick c a b => match ρ c with
  | some (.d (.bool true)) => (ρ a).map .val
  | some (.d (.bool false)) => (ρ b).map .val
  | _ => none
 | .alloc t => match o.dst, zeroA C t with
  | some d, some z => if d ∈ A.heap then some (.newVar z t) else some (.newL z)
  | _, _ => none
 | .box t x => match o.dst, ρ x, C.T t with
  | some d, some v, some ti =>
   if v.isL ∨ v.cells.length ≠ ti.size ∨ !(v.cells.all AV.isCell) then none
   else if d ∈ A.heap then some (.newVar v.cells t) else some (.newL v.cells)
  | _, _, _ => none
 | .build t parts => match evalAll ρ parts.toList with
  | some ps => if ps.any (·.2.isL) then none else (buildA C t ps).map .val
  | none => none
 | .buildSlice t len parts => match o.dst, evalAll ρ parts.toList with
  | some d, some ps => if ps.any (·.2.isL) then none else match buildSliceA C t len ps with
   | some (e, sz, cs) => if d ∈ A.marr then some (.newCells cs len sz e) else match allD cs with
    | some ds => some (.val (.d (.imm ds len)))
    | none => none
   | none => none
  | _, _ => none
 | .load t p => match ρ p with
  | some v => (loadA C L H t v).map .val
  | none => none
 | .store t p x => match ρ p, ρ x with
  | some p, some v => storeA C L H t p v
  | _, _ => none
 | .nilCheck x => match ρ x with
  | some (.ptr a b c) => some (.val (.ptr a b c))
  | some (.lptr a b) => some (.val (.lptr a b))
  | some (.d (.iptr cs)) => some (.val (.d (.iptr cs)))
  | some (.clo f a b) => some (.val (.clo f a b))
  | some (.d (.fn f)) => some (.val (.d (.fn f)))
  | some (.yld l) => some (.val (.yld l))
  | _ => none
 | .binOp op t x y _ => match ρ x, ρ y with
  | some a, some b => (binA C op t x y a b).map .val
  | _, _ => none
 | .unOp op _ x => match ρ x with
  | some a => (unA op a).map .val
  | none => none
 | .convert src dst x => match ρ x with
  | some v => convertA C H src dst v
  | none => none
 | .makeInterface t x => match ρ x, (C.T t).map fun ti => plainKind ti.k with
  | some v, some true => match v with
   | .d v => some (.val (.d (.iface t v)))
   | v => if v.isL then none else some (.val (.iface t v))
  | _, _ => none
 | .makeFunc (.func f) first captured => match evalArgs ρ first.toList, evalArgs ρ captured.toList with
  | some a, some b => some (.val (.clo f a b))
  | _, _ => none
 | .makeMap _ none => some .newMap
 | .makeMap t (some r) => match ρ r, C.T t with
  | some (.d (.int _ _)), some { k := .map _ _, .. } => some .newMap
  | _, _ => none
 | .makeSlice t l c => match C.T t, ρ l, ρ c with
  | some { k := .slice e, .. }, some (.d (.int .i64 n)), some (.d (.int .i64 m)) => match C.T e with
   | some ei => if n = m ∧ 0 ≤ n ∧ n ≤ 2 ^ 26 ∧ ei.bytes ≤ 2 ^ 16 then some (.newCells (repeatL (ei.zero.map .d) n.toNat) n.toNat ei.size e) else none
   | none => none
  | _, _, _ => none
 | .slice t x lo hi none =>
  match ρ x, (match lo with | none => some none | some v => (ρ v).map some), (match hi with | none => some none | some v => (ρ v).map some) with
  | some v, some l, some h => (sliceA C t v l h).map .val
  | _, _, _ => none
 | .fieldAddr s x f => match ρ x with
  | some p => (fieldAddrA C s f p).map .val
  | none => none
 | .field s x f => match ρ x with
  | some v => (fieldA C s f v).map .val
  | none => none
 | .indexAddr t x i => match ρ x, ρ i with
  | some v, some i => (indexAddrA C t v i).map .val
  | _, _ => none
 | .index t x i => match ρ x, ρ i with
  | some v, some i => (indexA C t v i).map .val
  | _, _ => none
 | .lookup t x k ok => match ρ x, ρ k with
  | some v, some k => (lookupA C H t ok v k).map .val
  | _, _ => none
 | .mapUpdate t m k x => match ρ m, ρ k, ρ x with
  | some m, some k, some x => mapUpdateA C H t m k x
  | _, _, _ => none
 | .extract x i => match ρ x with
  | some (.tuple vs) => (vs[i]?).map .val
  | _ => none
 | .call c => match evalArgs ρ c.args.toList with
  | none => none
  | some args => match c.callee with
   | .value f => match ρ f with
    | some v => callValA v args
    | none => none
   | .builtin .len => match args with
    | [x] => match c.argTypes[0]? with
     | some t => if lenKind C t x then (lenA H x).map fun n : Nat => Eff.val (vint n) else none
     | none => none
    | _ => none
   | .builtin .append => match args with
    | [s, x] => match c.argTypes[0]? with
     | some t => appendA C H t c.argTypes[1]? s x
     | none => none
    | _ => none
   | .builtin .delete => match args with
    | [m, k] => match c.argTypes[0]? with
     | some t => deleteA C H t m k
     | none => none
    | _ => none
   | .builtin .panic => match args with
    | [x] => some (.panic x)
    | _ => none
   | .builtin .unsafeSliceData => match args with
    | [.d .nilslice] => some (.val (.d .nilptr))
    | [.msl id off len ver _] => if 0 < len then some (.val (.ptr id off ver)) else none
    | _ => none
   | .builtin .unsafeString => match args with
    | [.d .nilptr, .d (.int .i64 n)] => if n = 0 ∧ c.argTypes.size = 2 then some (.val (.d (.str []))) else none
    | _ => none
   | _ => none
 | .panic x => match ρ x with
  | some v => if v.isL then none else some (.panic v)
  | none => none
 | _ => none
end
end Go.Dv
/- How the abstract machine's values and memory stand to the model's. -/
namespace Go.Dv
section
variable (I : Nat → Prop) (w : World)
/-- Deep data in the world: what it leads to lies in blocks of I. -/
inductive DRel : DV → Value → Prop
 | bool (b : Bool) : DRel (.bool b) (.bool b)
 | int (k : IntKind) (n : Int) : DRel (.int k n) (.int k n)
 | str (s : List UInt8) : DRel (.str s) (.string ⟨⟨s⟩⟩)
 | nilptr : DRel .nilptr (.pointer none)
 | nilslice : DRel .nilslice (.slice none 0 0)
 | nilmap : DRel .nilmap (.map none)
 | nilfunc : DRel .nilfunc .nilFunc
 | niliface : DRel .niliface .nilIface
 | imm (cells : List DV) (len : Nat) (a : Addr) (cap : Nat) (vs : Nat → Value) (hlen : len ≤ cap)
   (hI : cells ≠ [] → I a.block ∧ a.spot = none)
   (hc : ∀ (i : Nat) x, cells[i]? = some x → w.cell? ⟨a.block, a.off + i, none⟩ = some (vs i))
   (hr : ∀ (i : Nat) x, cells[i]? = some x → DRel x (vs i)) : DRel (.imm cells len) (.slice (some a) len cap)
 | iptr (cells : List DV) (a : Addr) (vs : Nat → Value)
   (hI : cells ≠ [] → I a.block ∧ a.spot = none)
   (hc : ∀ (i : Nat) x, cells[i]? = some x → w.cell? ⟨a.block, a.off + i, none⟩ = some (vs i))
   (hr : ∀ (i : Nat) x, cells[i]? = some x → DRel x (vs i)) : DRel (.iptr cells) (.pointer (some a))
 | agg (cells : List DV) (vs : List Value) (hlen : vs.length = cells.length)
   (hr : ∀ (i : Nat) x y, cells[i]? = some x → vs[i]? = some y → DRel x y) : DRel (.agg cells) (.agg ⟨vs⟩)
 | fn (f : FuncId) : DRel (.fn f) (.func (.func f) #[] #[])
 | iface (t : TypeId) (x : DV) (v : Value) (h : DRel x v) : DRel (.iface t x) (.iface t v)
end
/-- The size of a block of cells, none where there is none. -/
def bsize (w : World) (b : Nat) : Option Nat :=
 match w.heap[b]? with
 | some (.cells c _ _) => some c.size
 | _ => none
/-- The element's type and the size of a block of cells. -/
def btype (w : World) (b : Nat) : Option (TypeId × Nat) :=
 match w.heap[b]? with
 | some (.cells c e _) => some (e, c.size)
 | _ => none
section
variable (m : Nat → Nat → Option Nat) (I : Nat → Prop) (w : World)
/-- A value that may lie in shared memory. m: the block of an object's version. -/
inductive URel : AV → Value → Prop
 | d (x : DV) (v : Value) (h : DRel I w x v) : URel (.d x) v
 | ptr (id off ver b : Nat) (h : m id ver = some b) : URel (.ptr id off ver) (.pointer (some ⟨b, off, none⟩))
 | msl (id off len ver sz b cap n : Nat) (h : m id ver = some b) (hlen : len ≤ cap) (hn : bsize w b = some n) (hcap : off + cap * sz ≤ n) :
   URel (.msl id off len ver sz) (.slice (some ⟨b, off, none⟩) len cap)
 | map (id r : Nat) (h : m id 0 = some r) : URel (.map id) (.map (some r))
 | clo (f : FuncId) (first captured : List AV) (fs cs : List Value) (hf : fs.length = first.length) (hc : cs.length = captured.length)
   (h1 : ∀ (i : Nat) x y, first[i]? = some x → fs[i]? = some y → URel x y)
   (h2 : ∀ (i : Nat) x y, captured[i]? = some x → cs[i]? = some y → URel x y) : URel (.clo f first captured) (.func (.func f) ⟨fs⟩ ⟨cs⟩)
 | yld (id l : Nat) (h : m id 0 = some l) : URel (.yld id) (.func (.yield l) #[] #[])
 | iface (t : TypeId) (x : AV) (v : Value) (h : URel x v) : URel (.iface t x) (.iface t v)
 | agg (cells : List AV) (vs : List Value) (hlen : vs.length = cells.length)
   (hr : ∀ (i : Nat) x y, cells[i]? = some x → vs[i]? = some y → URel x y) : URel (.agg cells) (.agg ⟨vs⟩)
 | tuple (cells : List AV) (vs : List Value) (hlen : vs.length = cells.length)
   (hr : ∀ (i : Nat) x y, cells[i]? = some x → vs[i]? = some y → URel x y) : URel (.tuple cells) (.tuple ⟨vs⟩)
/-- A value in a frame's slot: it may lead into the frame's own memory too. lm: the block of a slot's own memory. -/
def VRel (lm : Nat → Option Nat) (x : AV) (v : Value) : Prop :=
 (∃ key off b, x = .lptr key off ∧ lm key = some b ∧ v = .pointer (some ⟨b, off, none⟩)) ∨ URel m I w x v
/-- Rows of values. -/
def URels (xs : List AV) (vs : List Value) : Prop := vs.length = xs.length ∧ ∀ (i : Nat) x y, xs[i]? = some x → vs[i]? = some y → URel m I w x y
/-- What lies in a block: cells, none of them a string's. -/
def CellsAt (b : Nat) (cs : List AV) : Prop :=
 ∃ c e, w.heap[b]? = some (.cells c e (0, 0)) ∧ cs.length ≤ c.size ∧
  ∀ (i : Nat) x, cs[i]? = some x → ∃ y, c[i]? = some y ∧ URel m I w x y
def EntryRel (x : DV × AV) (y : MapEntry) : Prop := DRel I w x.1 y.key ∧ URel m I w x.2 y.val
def ObjRel (o : Obj) (b : Nat) : Prop :=
 match o with
 | .cells cs _ => CellsAt m I w b cs
 | .map es => ∃ (ys : Array MapEntry) (clock : Nat), w.heap[b]? = some (.map ys clock) ∧ ys.toList.length = es.length ∧
   (∀ (i : Nat) x y, es[i]? = some x → ys.toList[i]? = some y → EntryRel m I w x y) ∧ (∀ x ∈ es, isKey x.1 = true)
 | .loop l => ∃ (fn : FuncId) (tmps : Array Value) (dfs : Nat), w.heap[b]? = some (.loop { state := l.state, pending := l.pending, fn := fn, tmps := tmps, params := l.params, assign := l.assign, body := l.body, defers := dfs }) ∧
   l.n ≤ tmps.size ∧ (∀ s x, l.env.lookup s = some x → URel m I w x (tmps.getD s undef))
structure Rel (C : Ctx) (h : Hp) : Prop where
 obj : ∀ id o, h.get id = some o → ∃ b, m id o.ver = some b ∧ ¬ I b ∧ ObjRel m I w o b
 inj : ∀ id o id' o' b, h.get id = some o → h.get id' = some o' → m id o.ver = some b → m id' o'.ver = some b → id = id'
 lt : ∀ id o, h.get id = some o → id < h.next
 fr1 : ∀ id v, h.next ≤ id → m id v = none
 fr2 : ∀ id o v, h.get id = some o → o.ver < v → m id v = none
 mlt : ∀ id v b, m id v = some b → b < w.heap.size
 imm : ∀ b, I b → (bsize w b).isSome = true
 glob : ∀ g cs, C.G g = some cs → DRel I w (.iptr cs) (.pointer (some ⟨g, 0, none⟩))
 ty : ∀ id t, h.ty id = some t → ∃ b, m id 0 = some b ∧ btype w b = some t
 el : ∀ id o e, h.get id = some o → h.el id = some e → ∃ b n, m id o.ver = some b ∧ btype w b = some (e, n)
/-- The blocks that hold the objects that there are. -/
def Tch (h : Hp) (b : Nat) : Prop := ∃ id o, h.get id = some o ∧ m id o.ver = some b
/-- A frame's own memory. -/
structure LRel (h : Hp) (lm : Nat → Option Nat) (L : Loc) : Prop where
 obj : ∀ k cs, L k = some cs → ∃ b, lm k = some b ∧ b < w.heap.size ∧ ¬ I b ∧ ¬ Tch m h b ∧ CellsAt m I w b cs
 inj : ∀ k k' b, (L k).isSome = true → (L k').isSome = true → lm k = some b → lm k' = some b → k = k'
end
/-- How a world may go on: nothing outside is told, no block goes, none changes its size. -/
structure WLe (w w' : World) : Prop where
 os : w'.os = w.os
 output : w'.output = w.output
 tape : w'.tape = w.tape
 size : w.heap.size ≤ w'.heap.size
 bt : ∀ b x, btype w b = some x → btype w' b = some x
theorem bsize_btype (w : World) (b : Nat) : bsize w b = (btype w b).map (·.2) := by
 unfold bsize btype
 split <;> rfl
theorem WLe.bs {w w' : World} (h : WLe w w') (b n : Nat) (hb : bsize w b = some n) : bsize w' b = some n := by
 rw [bsize_btype] at hb ⊢
 cases hx : btype w b with
 | none => rw [hx] at hb; cases hb
 | some x => rw [hx] at hb; rw [h.bt b x hx]; exact hb
theorem WLe.refl (w : World) : WLe w w := ⟨rfl, rfl, rfl, Nat.le_refl _, fun _ _ h => h⟩
theorem WLe.trans {a b c : World} (h : WLe a b) (k : WLe b c) : WLe a c :=
 ⟨k.os.trans h.os, k.output.trans h.output, k.tape.trans h.tape, Nat.le_trans h.size k.size, fun b n hb => k.bt b n (h.bt b n hb)⟩
/-- The blocks of I are as they were. -/
def Keeps (I : Nat → Prop) (w w' : World) : Prop := ∀ b, I b → w'.heap[b]? = w.heap[b]?
theorem Keeps.refl (I : Nat → Prop) (w : World) : Keeps I w w := fun _ _ => rfl
theorem Keeps.trans {I I' : Nat → Prop} {a b c : World} (h : Keeps I a b) (k : Keeps I' b c) (hi : ∀ x, I x → I' x) : Keeps I a c :=
 fun x hx => (k x (hi x hx)).trans (h x hx)
theorem cell?_keep {w w' : World} {a : Addr} (h : w'.heap[a.block]? = w.heap[a.block]?) : w'.cell? a = w.cell? a := by
 unfold World.cell?; rw [h]
theorem DRel.mono {I I' : Nat → Prop} {w w' : World} (hi : ∀ b, I b → I' b) (hk : Keeps I w w') {x : DV} {v : Value} (h : DRel I w x v) : DRel I' w' x v := by
 induction h with
 | bool b => exact .bool b
 | int k n => exact .int k n
 | str s => exact .str s
 | nilptr => exact .nilptr
 | nilslice => exact .nilslice
 | nilmap => exact .nilmap
 | nilfunc => exact .nilfunc
 | niliface => exact .niliface
 | imm cells len a cap vs hlen hI hc _ ih =>
  refine .imm cells len a cap vs hlen (fun h => ⟨hi _ (hI h).1, (hI h).2⟩) (fun i x hx => ?_) ih
  have hne : cells ≠ [] := by rintro rfl; simp at hx
  rw [← hc i x hx]; exact cell?_keep (hk _ (hI hne).1)
 | iptr cells a vs hI hc _ ih =>
  refine .iptr cells a vs (fun h => ⟨hi _ (hI h).1, (hI h).2⟩) (fun i x hx => ?_) ih
  have hne : cells ≠ [] := by rintro rfl; simp at hx
  rw [← hc i x hx]; exact cell?_keep (hk _ (hI hne).1)
 | agg cells vs hlen _ ih => exact .agg cells vs hlen ih
 | fn f => exact .fn f
 | iface t x v _ ih => exact .iface t x v ih
section
variable {m m' : Nat → Nat → Option Nat} {I I' : Nat → Prop} {w w' : World}
def MLe (m m' : Nat → Nat → Option Nat) : Prop := ∀ id v b, m id v = some b → m' id v = some b
theorem MLe.refl (m : Nat → Nat → Option Nat) : MLe m m := fun _ _ _ h => h
theorem MLe.trans {a b c : Nat → Nat → Option Nat} (h : MLe a b) (k : MLe b c) : MLe a c := fun i v x hx => k i v x (h i v x hx)
theorem URel.mono (hm : MLe m m') (hi : ∀ b, I b → I' b) (hw : WLe w w') (hk : Keeps I w w') {x : AV} {v : Value} (h : URel m I w x v) : URel m' I' w' x v := by
 induction h with
 | d x v h => exact .d x v (h.mono hi hk)
 | ptr id off ver b h => exact .ptr id off ver b (hm _ _ _ h)
 | msl id off len ver sz b cap n h hlen hn hcap => exact .msl id off len ver sz b cap n (hm _ _ _ h) hlen (hw.bs _ _ hn) hcap
 | map id r h => exact .map id r (hm _ _ _ h)
 | clo f first captured fs cs hf hc _ _ ih1 ih2 => exact .clo f first captured fs cs hf hc ih1 ih2
 | yld id l h => exact .yld id l (hm _ _ _ h)
 | iface t x v _ ih => exact .iface t x v ih
 | agg cells vs hlen _ ih => exact .agg cells vs hlen ih
 | tuple cells vs hlen _ ih => exact .tuple cells vs hlen ih
theorem VRel.mono {lm lm' : Nat → Option Nat} (hm : MLe m m') (hi : ∀ b, I b → I' b) (hw : WLe w w') (hk : Keeps I w w')
  {x : AV} {v : Value} (hl : ∀ k b, x.isL = true → lm k = some b → lm' k = some b) (h : VRel m I w lm x v) : VRel m' I' w' lm' x v := by
 rcases h with ⟨key, off, b, rfl, hb, rfl⟩ | h
 ·exact .inl ⟨key, off, b, rfl, hl _ _ rfl hb, rfl⟩
 ·exact .inr (h.mono hm hi hw hk)
theorem URels.mono (hm : MLe m m') (hi : ∀ b, I b → I' b) (hw : WLe w w') (hk : Keeps I w w') {xs : List AV} {vs : List Value} (h : URels m I w xs vs) :
  URels m' I' w' xs vs := ⟨h.1, fun i x y hx hy => (h.2 i x y hx hy).mono hm hi hw hk⟩
theorem CellsAt.mono (hm : MLe m m') (hi : ∀ b, I b → I' b) (hw : WLe w w') (hk : Keeps I w w') {b : Nat} {cs : List AV}
  (hb : w'.heap[b]? = w.heap[b]?) (h : CellsAt m I w b cs) : CellsAt m' I' w' b cs := by
 obtain ⟨c, e, hh, hl, hr⟩ := h
 exact ⟨c, e, by rw [hb]; exact hh, hl, fun i x hx => let ⟨y, hy, hu⟩ := hr i x hx; ⟨y, hy, hu.mono hm hi hw hk⟩⟩
end
end Go.Dv
/- Operations that only compute and read, against the model. -/
namespace Go.Dv
def dval : DV → Value
 | .bool b => .bool b
 | .int k n => .int k n
 | .str s => .string ⟨⟨s⟩⟩
 | .nilptr => .pointer none
 | .nilslice => .slice none 0 0
 | .nilmap => .map none
 | .nilfunc => .nilFunc
 | .niliface => .nilIface
 | _ => undef
def dplain : DV → Bool
 | .bool _ | .int _ _ | .str _ | .nilptr | .nilslice | .nilmap | .nilfunc | .niliface => true
 | _ => false
def isAggD : TypeDesc → Bool
 | .struct _ | .array _ _ => true
 | _ => false
def fieldOk (P : Program) (f : Field) (x : Nat × Nat × Bool) : Prop :=
 x.1 = f.offset ∧ x.2.1 ≠ 0 ∧ f.name ≠ "_" ∧ ∃ i d, P.info? f.type = some i ∧ i.size = x.2.1 ∧ P.underlying f.type = some d ∧ x.2.2 = isAggD d
def KOk (P : Program) : TypeDesc → TK → Prop
 | .int k, .int k' => k = k'
 | .string, .string => True
 | .bool, .bool => True
 | .pointer e, .pointer e' => e = e'
 | .slice e, .slice e' => e = e'
 | .array n e, .array n' e' => n = n' ∧ e = e' ∧ 2 ≤ n
 | .struct fs, .struct l => fs.size = l.length ∧ ∀ (i : Nat) f x, fs[i]? = some f → l[i]? = some x → fieldOk P f x
 | .map k e, .map k' e' => k = k' ∧ e = e'
 | .func _ _ _, .func => True
 | .interface _, .iface => True
 | .unsafePointer, .unsafePointer => True
 | _, .other => True
 | _, _ => False
/-- A row of the table tells the truth. -/
structure TOk (P : Program) (t : TypeId) (ti : TI) : Prop where
 info : ∃ i, P.info? t = some i ∧ i.size = ti.size ∧ i.bytes = ti.bytes ∧ i.zero = some (if ti.agg then .agg ⟨ti.zero.map dval⟩ else dval (ti.zero.headD .nilptr)) ∧ ti.zero.length = ti.size ∧ (ti.agg = false → ti.size = 1)
 plain : ∀ x ∈ ti.zero, dplain x = true
 und : ∃ d, P.underlying t = some d ∧ KOk P d ti.k ∧ ti.agg = isAggD d
def COk (C : Ctx) : Prop := ∀ t ti, C.T t = some ti → TOk C.P t ti
section
variable {P : Program} (w : World)
theorem run_isAgg_d {t : TypeId} {d : TypeDesc} (h : P.underlying t = some d) : (isAgg t).run P w = .ok (isAggD d) w := by
 simp only [isAgg, Sem.run_bind, run_underlying h, Result.andThen_ok]
 cases d <;> rfl
theorem run_sizeOf_i {t : TypeId} {i : TypeInfo} (h : P.info? t = some i) : (sizeOf t).run P w = .ok i.size w := by
 simp [sizeOf, typeInfo, h]
theorem run_zero_i {t : TypeId} {i : TypeInfo} {z : Value} (h : P.info? t = some i) (hz : i.zero = some z) : (zeroValue t).run P w = .ok z w := by
 simp [zeroValue, typeInfo, h, hz]
theorem add_none (b off n : Nat) : (⟨b, off, none⟩ : Addr).add n = ⟨b, off + n, none⟩ := by
 unfold Addr.add; split <;> simp_all
end
theorem dplain_rel {I : Nat → Prop} {w : World} {x : DV} (h : dplain x = true) : DRel I w x (dval x) := by
 cases x <;> simp [dplain] at h <;> first | exact .bool _ | exact .int _ _ | exact .str _ | exact .nilptr | exact .nilslice | exact .nilmap | exact .nilfunc | exact .niliface
section
variable {m : Nat → Nat → Option Nat} {I : Nat → Prop} {w : World}
theorem allD_spec : ∀ {cs : List AV} {ds : List DV}, allD cs = some ds → cs = ds.map .d
 | [], ds, h => by simp [allD] at h; subst h; rfl
 | .d x :: r, ds, h => by
  simp only [allD] at h
  split at h
  ·rename_i l hl
   simp at h; subst h; simp [allD_spec hl]
  ·cases h
 | .ptr .. :: _, _, h => by simp [allD] at h
 | .msl .. :: _, _, h => by simp [allD] at h
 | .lptr .. :: _, _, h => by simp [allD] at h
 | .map _ :: _, _, h => by simp [allD] at h
 | .clo .. :: _, _, h => by simp [allD] at h
 | .yld _ :: _, _, h => by simp [allD] at h
 | .iface .. :: _, _, h => by simp [allD] at h
 | .agg _ :: _, _, h => by simp [allD] at h
 | .tuple _ :: _, _, h => by simp [allD] at h
theorem URel.toD {x : DV} {v : Value} (h : URel m I w (.d x) v) : DRel I w x v := by cases h; assumption
theorem mkAgg_rel {cs : List AV} {vs : List Value} (h : URels m I w cs vs) : URel m I w (mkAgg cs) (.agg ⟨vs⟩) := by
 unfold mkAgg
 split
 ·rename_i ds hd
  have := allD_spec hd
  subst this
  refine .d _ _ (.agg ds vs (by simpa using h.1) fun i x y hx hy => ?_)
  exact (h.2 i (.d x) y (by simp [hx]) hy).toD
 ·exact .agg cs vs h.1 h.2
theorem takeExact_spec {α : Type} {n off : Nat} {l r : List α} (h : takeExact n off l = some r) : r.length = n ∧ ∀ i x, r[i]? = some x → l[off + i]? = some x := by
 unfold takeExact at h
 simp only at h
 split at h
 ·rename_i hl
  simp at h; subst h
  refine ⟨hl, fun i x hx => ?_⟩
  have hi : i < n := by
   have := (List.getElem?_eq_some_iff.1 hx).1
   omega
  rw [List.getElem?_take_of_lt hi, List.getElem?_drop] at hx
  exact hx
 ·cases h
/-- Cells that lie in a row, loaded as a variable. -/
theorem load_row {P : Program} {t : TypeId} {ti : TI} (hT : TOk P t ti) {a : Addr} {cs : List AV} {r : AV} (hn : cs.length = ti.size)
  (hs : cs ≠ [] → a.spot = none) (hr : oneOf ti.agg cs = some r)
  (hc : ∀ i x, cs[i]? = some x → ∃ y, w.cell? ⟨a.block, a.off + i, none⟩ = some y ∧ URel m I w x y) :
  ∃ v, (loadVar t a).run P w = .ok v w ∧ URel m I w r v := by
 obtain ⟨i, hi, hsz, _⟩ := hT.info
 obtain ⟨d, hd, _, hag⟩ := hT.und
 have hc' : ∀ j, j < cs.length → ∃ y, w.cell? (a.add j) = some y ∧ URel m I w cs[j]! y := by
  intro j hj
  have hne : cs ≠ [] := by rintro rfl; simp at hj
  obtain ⟨b, off, sp⟩ := a
  have := hs hne
  simp only at this
  subst this
  rw [add_none]
  have hx : cs[j]? = some cs[j]! := by simp [List.getElem?_eq_getElem hj, List.getElem!_eq_getElem?_getD]
  exact hc j _ hx
 unfold oneOf at hr
 cases hagg : ti.agg with
 | true =>
  simp only [hagg, if_true, Option.some.injEq] at hr
  subst hr
  classical
  let f : Nat → Value := fun j => if h : j < cs.length then (hc' j h).choose else undef
  have hf : ∀ j, j < cs.length → w.cell? (a.add j) = some (f j) ∧ URel m I w cs[j]! (f j) := by
   intro j hj
   have := (hc' j hj).choose_spec
   simp only [f, hj, dif_pos]
   exact this
  refine ⟨.agg ((List.range cs.length).map f).toArray, ?_, ?_⟩
  ·simp only [loadVar, Sem.run_bind, run_isAgg_d w hd, Result.andThen_ok, ← hag, hagg, if_true, run_sizeOf_i w hi, hsz, ← hn,
    run_loadCells w a cs.length f (fun j hj => (hf j hj).1), Sem.run_pure]
  ·refine mkAgg_rel ⟨by simp, fun j x y hx hy => ?_⟩
   have hj : j < cs.length := (List.getElem?_eq_some_iff.1 hx).1
   simp [hj] at hy
   subst hy
   have := (hf j hj).2
   simp only [List.getElem!_eq_getElem?_getD, hx, Option.getD_some] at this
   exact this
 | false =>
  simp only [hagg] at hr
  match cs, hr with
  | [c], hr =>
   simp at hr; subst hr
   obtain ⟨y, hy, hu⟩ := hc' 0 (by simp)
   refine ⟨y, ?_, by simpa using hu⟩
   simp only [loadVar, Sem.run_bind, run_isAgg_d w hd, Result.andThen_ok, ← hag, hagg, Bool.false_eq_true, if_false, run_load]
   have : a.add 0 = a := by simp [Addr.add]
   rw [this] at hy
   simp [hy]
theorem oneOfD_map {agg : Bool} {cs : List DV} : (oneOfD agg cs) = oneOf agg (cs.map .d) := by
 have hall : ∀ l : List DV, allD (l.map .d) = some l := by
  intro l; induction l with
  | nil => rfl
  | cons x r ih => simp [allD, ih]
 unfold oneOfD oneOf
 cases agg with
 | true => simp [mkAgg, hall]
 | false => match cs with
  | [] => rfl
  | [c] => rfl
  | _ :: _ :: _ => rfl
end
end Go.Dv
/- Operations that hand back a value, one lemma a kind. -/
namespace Go.Dv
/-- I and the world have grown; what there was is as it was. -/
structure GrowI (I : Nat → Prop) (w : World) (I' : Nat → Prop) (w' : World) : Prop where
 sub : ∀ b, I b → I' b
 wle : WLe w w'
 old : ∀ b, b < w.heap.size → w'.heap[b]? = w.heap[b]?
 new : ∀ b, I' b → I b ∨ (w.heap.size ≤ b ∧ (bsize w' b).isSome = true)
theorem GrowI.refl (I : Nat → Prop) (w : World) : GrowI I w I w := ⟨fun _ h => h, WLe.refl w, fun _ _ => rfl, fun _ h => .inl h⟩
theorem lt_of_btype {w : World} {b : Nat} {x : TypeId × Nat} (h : btype w b = some x) : b < w.heap.size := by
 unfold btype at h
 rcases Nat.lt_or_ge b w.heap.size with h1 | h1
 ·exact h1
 ·rw [Array.getElem?_eq_none h1] at h; cases h
theorem lt_of_bsize {w : World} {b n : Nat} (h : bsize w b = some n) : b < w.heap.size := by
 unfold bsize at h
 rcases Nat.lt_or_ge b w.heap.size with hb | hb
 ·exact hb
 ·simp [Array.getElem?_eq_none hb] at h
section
variable {C : Ctx} {m : Nat → Nat → Option Nat} {I : Nat → Prop} {w : World} {lm : Nat → Option Nat} {h : Hp} {L : Loc}
theorem ofConst_rel {v : Value} {x : AV} (hv : ofConst v = some x) : URel m I w x v := by
 unfold ofConst at hv
 split at hv <;> simp at hv <;> subst hv <;> refine .d _ _ ?_
 ·exact .bool _
 ·exact .int _ _
 ·rename_i s
  have : s = ⟨⟨s.data.toList⟩⟩ := rfl
  exact .str _
 ·exact .nilptr
 ·exact .nilslice
 ·exact .nilmap
 ·exact .nilfunc
 ·exact .niliface
theorem rho_rel (hR : Rel m I w C h) {env : Env} {a : Act} (he : ∀ t x, env t = some x → VRel m I w lm x (a.tmps.getD t undef)) {x : Operand} {v : AV}
  (hv : rho C env x = some v) : VRel m I w lm v (a.eval x) := by
 cases x with
 | tmp t => exact he t v hv
 | const c => exact .inr (ofConst_rel hv)
 | global g =>
  simp only [rho, Option.map_eq_some_iff] at hv
  obtain ⟨cs, hg, rfl⟩ := hv
  exact .inr (.d _ _ (hR.glob g cs hg))
 | func f =>
  simp only [rho, Option.some.injEq] at hv
  subst hv
  exact .inr (.d _ _ (.fn f))
theorem VRel.toU {x : AV} {v : Value} (hx : x.isL = false) (hr : VRel m I w lm x v) : URel m I w x v := by
 rcases hr with ⟨k, o, b, rfl, _, _⟩ | hr
 ·simp [AV.isL] at hx
 ·exact hr
theorem VRel.d {x : DV} {v : Value} (hr : VRel m I w lm (.d x) v) : DRel I w x v := (hr.toU rfl).toD
theorem VRel.intV {k : IntKind} {n : Int} {v : Value} (hr : VRel m I w lm (.d (.int k n)) v) : v = .int k n := by
 have := hr.d; cases this; rfl
theorem VRel.boolV {b : Bool} {v : Value} (hr : VRel m I w lm (.d (.bool b)) v) : v = .bool b := by
 have := hr.d; cases this; rfl
theorem VRel.strV {s : List UInt8} {v : Value} (hr : VRel m I w lm (.d (.str s)) v) : v = .string ⟨⟨s⟩⟩ := by
 have := hr.d; cases this; rfl
theorem VRel.ptrV {id off ver : Nat} {v : Value} (hr : VRel m I w lm (.ptr id off ver) v) : ∃ b, m id ver = some b ∧ v = .pointer (some ⟨b, off, none⟩) := by
 have := hr.toU rfl; cases this; exact ⟨_, by assumption, rfl⟩
theorem VRel.lptrV {key off : Nat} {v : Value} (hr : VRel m I w lm (.lptr key off) v) : ∃ b, lm key = some b ∧ v = .pointer (some ⟨b, off, none⟩) := by
 rcases hr with ⟨k, o, b, hx, hb, hv⟩ | hr
 ·cases hx; exact ⟨b, hb, hv⟩
 ·cases hr
theorem VRel.iptrV {cs : List DV} {v : Value} (hr : VRel m I w lm (.d (.iptr cs)) v) :
  ∃ (a : Addr) (vs : Nat → Value), v = .pointer (some a) ∧ (cs ≠ [] → I a.block ∧ a.spot = none) ∧ (∀ (i : Nat) x, cs[i]? = some x → w.cell? ⟨a.block, a.off + i, none⟩ = some (vs i)) ∧ (∀ (i : Nat) x, cs[i]? = some x → DRel I w x (vs i)) := by
 have := hr.d; cases this with
 | iptr _ a vs hI hc hq => exact ⟨a, vs, rfl, hI, hc, hq⟩
theorem cell_of_block {w : World} {b : Nat} {c : Array Value} {e : TypeId} {f : Nat × Nat} (h : w.heap[b]? = some (.cells c e f)) (o : Nat) : w.cell? ⟨b, o, none⟩ = c[o]? := by
 simp [World.cell?, h]
theorem loadA_rel (hC : COk C) (hR : Rel m I w C h) (hL : LRel m I w h lm L) {t : TypeId} {p r : AV} {pv : Value} (hp : VRel m I w lm p pv) (hr : loadA C L h.get t p = some r) :
  ∃ v, (Instr.loadAt t pv).run C.P w = .ok v w ∧ URel m I w r v := by
 unfold loadA at hr
 split at hr
 ·rename_i cs
  split at hr
  ·rename_i ti hti
   split at hr
   ·rename_i r' hte
    obtain ⟨a, vs, rfl, hI, hc, hd⟩ := hp.iptrV
    rw [oneOfD_map] at hr
    obtain ⟨hlen, hget⟩ := takeExact_spec hte
    have hs1 : r'.map AV.d ≠ [] → a.spot = none := by
     intro hne
     refine (hI ?_).2
     intro hcs
     have : r' = [] := by
      cases r' with
      | nil => rfl
      | cons y ys => have := hget 0 y rfl; simp [hcs] at this
     simp [this] at hne
    have hs2 : ∀ (i : Nat) x, (r'.map AV.d)[i]? = some x → ∃ y, w.cell? ⟨a.block, a.off + i, none⟩ = some y ∧ URel m I w x y := by
     intro i x hx
     simp only [List.getElem?_map, Option.map_eq_some_iff] at hx
     obtain ⟨y, hy, rfl⟩ := hx
     have h0 := hget i y hy
     simp only [Nat.zero_add] at h0
     exact ⟨vs i, hc i y h0, .d _ _ (hd i y h0)⟩
    obtain ⟨v, hv, hu⟩ := load_row (P := C.P) (hC t ti hti) (by simpa using hlen) hs1 hr hs2
    exact ⟨v, by simp [Instr.loadAt, Instr.sureAddr, hv], hu⟩
   ·cases hr
  ·cases hr
 ·rename_i key off
  split at hr
  ·rename_i ti cs hti hcs
   split at hr
   ·rename_i r' hte
    obtain ⟨b, hb, rfl⟩ := hp.lptrV
    obtain ⟨b', hb', hlt, _, _, c, e, hblk, hsz, hcells⟩ := hL.obj key cs hcs
    rw [hb] at hb'; cases hb'
    obtain ⟨hlen, hget⟩ := takeExact_spec hte
    obtain ⟨v, hv, hu⟩ := load_row (P := C.P) (m := m) (I := I) (w := w) (a := ⟨b, off, none⟩) (hC t ti hti) hlen (fun _ => rfl) hr (fun i x hx => by
     obtain ⟨y, hy, hu⟩ := hcells _ _ (hget i x hx)
     exact ⟨y, by rw [cell_of_block hblk]; exact hy, hu⟩)
    exact ⟨v, by simp [Instr.loadAt, Instr.sureAddr, hv], hu⟩
   ·cases hr
  ·cases hr
 ·rename_i id off ver
  split at hr
  ·rename_i ti cs v0 hti hcs
   split at hr
   ·rename_i hver
    split at hr
    ·rename_i r' hte
     obtain ⟨b, hb, rfl⟩ := hp.ptrV
     obtain ⟨b', hb', _, c, e, hblk, hsz, hcells⟩ := hR.obj id _ hcs
     simp only [Obj.ver] at hb'
     rw [hver, hb] at hb'; cases hb'
     obtain ⟨hlen, hget⟩ := takeExact_spec hte
     obtain ⟨v, hv, hu⟩ := load_row (P := C.P) (m := m) (I := I) (w := w) (a := ⟨b, off, none⟩) (hC t ti hti) hlen (fun _ => rfl) hr (fun i x hx => by
      obtain ⟨y, hy, hu⟩ := hcells _ _ (hget i x hx)
      exact ⟨y, by rw [cell_of_block hblk]; exact hy, hu⟩)
     exact ⟨v, by simp [Instr.loadAt, Instr.sureAddr, hv], hu⟩
    ·cases hr
   ·cases hr
  ·cases hr
 ·cases hr
/-- A pointer moved on by so many cells. -/
theorem shiftP_rel {n : Nat} {p r : AV} {pv : Value} (hp : VRel m I w lm p pv) (hr : shiftP n p = some r) :
  ∃ a, pv = .pointer (some a) ∧ VRel m I w lm r (.pointer (some (a.add n))) := by
 unfold shiftP at hr
 split at hr <;> simp at hr <;> subst hr
 ·rename_i cs
  obtain ⟨a, vs, rfl, hI, hc, hd⟩ := hp.iptrV
  refine ⟨a, rfl, .inr (.d _ _ (.iptr (cs.drop n) _ (fun i => vs (n + i)) (fun hne => ?_) (fun i x hx => ?_) (fun i x hx => ?_)))⟩
  ·have hcs : cs ≠ [] := by rintro rfl; simp at hne
   obtain ⟨h1, h2⟩ := hI hcs
   unfold Addr.add; split
   ·exact ⟨h1, h2⟩
   ·exact ⟨h1, rfl⟩
  ·rw [List.getElem?_drop] at hx
   have hb : (a.add n).block = a.block := by unfold Addr.add; split <;> rfl
   have ho : (a.add n).off = a.off + n := by unfold Addr.add; split <;> simp_all
   rw [hb, ho, Nat.add_assoc]
   exact hc _ _ hx
  ·rw [List.getElem?_drop] at hx
   exact hd _ _ hx
 ·rename_i key off
  obtain ⟨b, hb, rfl⟩ := hp.lptrV
  exact ⟨_, rfl, .inl ⟨key, off + n, b, rfl, hb, by rw [add_none]⟩⟩
 ·rename_i id off ver
  obtain ⟨b, hb, rfl⟩ := hp.ptrV
  exact ⟨_, rfl, .inr (by rw [add_none]; exact .ptr id (off + n) ver b hb)⟩
theorem fieldOf_spec (hC : COk C) {s : TypeId} {f : Nat} {x : Nat × Nat × Bool} (hx : fieldOf C s f = some x) :
  ∃ fs g, C.P.underlying s = some (.struct fs) ∧ fs[f]? = some g ∧ fieldOk C.P g x := by
 unfold fieldOf at hx
 split at hx
 ·rename_i l _ _ _ _ hti
  obtain ⟨d, hd, hk, _⟩ := (hC _ _ hti).und
  cases d with
  | struct fs => ?_
  | _ => simp [KOk] at hk
  obtain ⟨hl, hall⟩ := hk
  have hf : f < fs.size := by have := (List.getElem?_eq_some_iff.1 hx).1; omega
  exact ⟨fs, fs[f], hd, by simp [hf], hall f _ x (by simp [hf]) hx⟩
 ·cases hx
theorem fieldAddrA_rel (hC : COk C) {s : TypeId} {f : Nat} {p r : AV} {pv : Value} (hp : VRel m I w lm p pv) (hr : fieldAddrA C s f p = some r) :
  ∃ v, (Instr.fieldAt s pv f).run C.P w = .ok v w ∧ VRel m I w lm r v := by
 unfold fieldAddrA at hr
 split at hr
 ·rename_i off sz ag hf
  obtain ⟨fs, g, hu, hg, ho, hne, _, i, d, hi, hsz, _, _⟩ := fieldOf_spec hC hf
  obtain ⟨a, rfl, hv⟩ := shiftP_rel hp hr
  simp only at ho hsz hne
  refine ⟨_, ?_, hv⟩
  have h0 : ¬ i.size = 0 := by rw [hsz]; exact hne
  simp [Instr.fieldAt, run_underlying hu, hg, Instr.sureAddr, fieldPlace, run_sizeOf_i w hi, h0, ho]
 ·cases hr
theorem oneOf_part {P : Program} {t : TypeId} {i : TypeInfo} {d : TypeDesc} {ag : Bool} {size off : Nat} {cs r : List AV} {vs : List Value} {x : AV}
  (hi : P.info? t = some i) (hsz : i.size = size) (hd : P.underlying t = some d) (hag : ag = isAggD d)
  (hrel : URels m I w cs vs) (hte : takeExact size off cs = some r) (hx : oneOf ag r = some x) :
  ∃ v, (part t ⟨vs⟩ off).run P w = .ok v w ∧ URel m I w x v := by
 obtain ⟨hlen, hget⟩ := takeExact_spec hte
 unfold oneOf at hx
 cases hagg : isAggD d with
 | true =>
  rw [hagg] at hag; subst hag
  simp only [if_true, Option.some.injEq] at hx
  subst hx
  refine ⟨.agg ((⟨vs⟩ : Array Value).extract off (off + i.size)), ?_, ?_⟩
  ·simp [part, run_isAgg_d w hd, hagg, run_sizeOf_i w hi]
  ·have : ((⟨vs⟩ : Array Value).extract off (off + i.size)) = ⟨(vs.drop off).take size⟩ := by
    apply Array.ext'
    simp [hsz]
   rw [this]
   have hbound : off + size ≤ vs.length ∨ size = 0 := by
    rcases Nat.eq_zero_or_pos size with h0 | h0
    ·exact .inr h0
    ·left
     have hl : r.length - 1 < r.length := by omega
     have := hget (r.length - 1) r[r.length - 1] (by simp [hl])
     have := (List.getElem?_eq_some_iff.1 this).1
     rw [hrel.1]; omega
   refine mkAgg_rel ⟨by simp; omega, fun j y z hy hz => ?_⟩
   have hj : j < size := by have := (List.getElem?_eq_some_iff.1 hy).1; omega
   rw [List.getElem?_take_of_lt hj, List.getElem?_drop] at hz
   exact hrel.2 (off + j) y z (hget j y hy) hz
 | false =>
  rw [hagg] at hag; subst hag
  simp only [Bool.false_eq_true, if_false] at hx
  match r, hx with
  | [c], hx =>
   simp at hx; subst hx
   have h0 := hget 0 c rfl
   simp only [Nat.add_zero] at h0
   have hlt : off < vs.length := by have := (List.getElem?_eq_some_iff.1 h0).1; rw [hrel.1]; exact this
   refine ⟨vs[off], ?_, hrel.2 off c _ h0 (by simp [hlt])⟩
   simp [part, run_isAgg_d w hd, hagg, hlt]
theorem aggs_rel {x : AV} {v : Value} (hr : VRel m I w lm x v) : (∀ cs, x = .d (.agg cs) → ∃ vs, v = .agg ⟨vs⟩ ∧ URels m I w (cs.map .d) vs) ∧
  (∀ cs, x = .agg cs → ∃ vs, v = .agg ⟨vs⟩ ∧ URels m I w cs vs) := by
 constructor
 ·rintro cs rfl
  have := hr.d
  cases this with
  | agg _ vs hl hq =>
   refine ⟨vs, rfl, by simpa using hl, fun i x y hx hy => ?_⟩
   simp only [List.getElem?_map, Option.map_eq_some_iff] at hx
   obtain ⟨z, hz, rfl⟩ := hx
   exact .d _ _ (hq i z y hz hy)
 ·rintro cs rfl
  have := hr.toU rfl
  cases this with
  | agg _ vs hl hq => exact ⟨vs, rfl, hl, hq⟩
theorem takeExact_map {α β : Type} {f : α → β} {n off : Nat} {l r : List α} (h : takeExact n off l = some r) : takeExact n off (l.map f) = some (r.map f) := by
 unfold takeExact at *
 simp only at *
 split at h
 ·rename_i hl
  simp at h; subst h
  simp only [List.map_drop, List.map_take] at *
  have : (List.take n (List.drop off (List.map f l))).length = n := by simpa using hl
  simp [this]
 ·cases h
theorem fieldA_rel (hC : COk C) {s : TypeId} {f : Nat} {x r : AV} {xv : Value} (hx : VRel m I w lm x xv) (hr : fieldA C s f x = some r) :
  ∃ v, (Instr.field s xv f).run C.P w = .ok v w ∧ URel m I w r v := by
 unfold fieldA at hr
 split at hr
 ·rename_i cs
  split at hr
  ·rename_i off sz ag hf
   split at hr
   ·rename_i r' hte
    obtain ⟨fs, g, hu, hg, ho, hne, _, i, d, hi, hsz, hd, hag⟩ := fieldOf_spec hC hf
    obtain ⟨vs, rfl, hrel⟩ := (aggs_rel hx).1 cs rfl
    simp only at ho hsz hag
    rw [oneOfD_map] at hr
    subst ho
    obtain ⟨v, hv, hu'⟩ := oneOf_part hi hsz hd hag hrel (takeExact_map hte) hr
    exact ⟨v, by simp [Instr.field, run_underlying hu, hg, asAgg, hv], hu'⟩
   ·cases hr
  ·cases hr
 ·rename_i cs
  split at hr
  ·rename_i off sz ag hf
   split at hr
   ·rename_i r' hte
    obtain ⟨fs, g, hu, hg, ho, hne, _, i, d, hi, hsz, hd, hag⟩ := fieldOf_spec hC hf
    obtain ⟨vs, rfl, hrel⟩ := (aggs_rel hx).2 cs rfl
    simp only at ho hsz hag
    subst ho
    obtain ⟨v, hv, hu'⟩ := oneOf_part hi hsz hd hag hrel hte hr
    exact ⟨v, by simp [Instr.field, run_underlying hu, hg, asAgg, hv], hu'⟩
   ·cases hr
  ·cases hr
 ·cases hr
theorem intOf_rel {x : AV} {v : Value} {k : IntKind} {n : Int} (hx : VRel m I w lm x v) (h : intOf? x = some (k, n)) : v = .int k n := by
 unfold intOf? at h
 split at h
 ·simp at h; obtain ⟨rfl, rfl⟩ := h; exact hx.intV
 ·cases h
end
end Go.Dv
