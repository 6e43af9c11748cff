/- The abstract machine: a deterministic run of the loaded code over a memory of named blocks, without capacities, without a tape: what it computes, each run of the machine computes (Am.Sound). -/
import Derived.Orders
import Derived.Below
import Derived.Laws.Entries
set_option linter.unusedSimpArgs false
set_option linter.unusedVariables false
namespace Go.AM
open Go

/-- What a block of the abstract memory holds. 'own': it may be written. -/
inductive Blk where
  | cells (cs : List Value) (elem : TypeId) (own : Bool)
  | map (es : List (Value × Value))

def Blk.own : Blk → Bool
  | .cells _ _ o => o
  | .map _ => true

structure Mem where
  get : Nat → Option Blk
  next : Nat

def Mem.set (m : Mem) (i : Nat) (b : Blk) : Mem := { get := fun j => if j = i then some b else m.get j, next := m.next }
def Mem.kill (m : Mem) (i : Nat) : Mem := { get := fun j => if j = i then none else m.get j, next := m.next }
def Mem.new (m : Mem) (b : Blk) : Mem := { get := fun j => if j = m.next then some b else m.get j, next := m.next + 1 }

abbrev Env := Nat → Option Value
def Env.put (e : Env) (d : Option Nat) (v : Value) : Env :=
  match d with
  | none => e
  | some d => fun t => if t = d then some v else e t

def okCell : Value → Bool
  | .agg _ => false
  | .tuple _ => false
  | _ => true

/-- A constant without addresses. -/
def constCell : Value → Bool
  | .bool _ => true
  | .int _ _ => true
  | .float _ _ => true
  | .string _ => true
  | .pointer none => true
  | .slice none 0 0 => true
  | .map none => true
  | .nilFunc => true
  | .nilIface => true
  | _ => false
def constOk : Value → Bool
  | .agg cs => cs.toList.all constCell
  | .tuple cs => cs.toList.all constCell
  | v => constCell v

def ev1 (e : Env) : Operand → Option Value
  | .tmp t => e t
  | .const v => if constOk v = true then some v else none
  | .func f => some (.func (.func f) #[] #[])
  | .global _ => none

def evs (e : Env) : List Operand → Option (List Value)
  | [] => some []
  | x :: r => match ev1 e x with
    | none => none
    | some v => match evs e r with
      | none => none
      | some vs => some (v :: vs)

/-- A value that may stand in cells. -/
def okVal : Value → Bool
  | .tuple _ => false
  | _ => true

/-- A zero value that may stand in cells. -/
def zeroOk (z : Value) : Bool := constOk z && okVal z

def evParts (e : Env) : List (Nat × Operand) → Option (List (Nat × Value))
  | [] => some []
  | (i, x) :: r => match ev1 e x with
    | none => none
    | some v => if okVal v = true then match evParts e r with
      | none => none
      | some vs => some ((i, v) :: vs) else none

section
variable (P : Program)

def tsize (t : TypeId) : Option Nat := (P.info? t).map (·.size)
def tbytes (t : TypeId) : Option Nat := (P.info? t).map (·.bytes)
def tzero (t : TypeId) : Option Value := (P.info? t).bind (·.zero)
def esz (t : TypeId) : Nat := ((P.info? t).map (·.size)).getD 0
def aggOf (t : TypeId) : Option Bool :=
  match P.underlying t with
  | some (.struct _) => some true
  | some (.array _ _) => some true
  | some _ => some false
  | none => none

def opAlloc (t : TypeId) (m : Mem) : Option (Value × Mem) :=
  match tzero P t with
  | none => none
  | some z => if zeroOk z = true then some (.pointer (some ⟨m.next, 0, none⟩), m.new (.cells z.cells.toList t true)) else none

def opBox (t : TypeId) (v : Value) (m : Mem) : Option (Value × Mem) :=
  if okVal v = true then some (.pointer (some ⟨m.next, 0, none⟩), m.new (.cells v.cells.toList t true)) else none

def places : List Field → Option (List (Nat × Nat))
  | [] => some []
  | f :: r => match tsize P f.type with
    | none => none
    | some s => match places r with
      | none => none
      | some l => some ((f.offset, s) :: l)

def opBuild (t : TypeId) (parts : List (Nat × Value)) : Option Value :=
  match tzero P t with
  | none => none
  | some z => if zeroOk z = true then match P.underlying t with
    | some (.struct fields) => match places P fields.toList with
      | none => none
      | some ps => match Instr.fill (fun i => ps[i]?) z.cells parts with
        | none => none
        | some cells => some (.agg cells)
    | some (.array _ elem) => match tsize P elem with
      | none => none
      | some s => match Instr.fill (fun i => some (i * s, s)) z.cells parts with
        | none => none
        | some cells => some (.agg cells)
    | _ => none else none

/-- n cells, all alike a zero value's. -/
def zeroRow (zero : Array Value) (n : Nat) : Array Value := (Array.range n).map (zero[· % zero.size]!)

def opBuildSlice (t : TypeId) (len : Nat) (parts : List (Nat × Value)) (m : Mem) : Option (Value × Mem) :=
  match P.underlying t with
  | some (.slice elem) => match tsize P elem, tzero P elem with
    | some s, some z =>
      if zeroOk z = true ∧ len * s ≤ 16777216 ∧ 0 < z.cells.size ∧ z.cells.size = s then
        match Instr.fill (fun i => some (i * s, s)) (zeroRow z.cells (len * s)) parts with
        | none => none
        | some cells => some (.slice (some ⟨m.next, 0, none⟩) len s, m.new (.cells cells.toList elem true))
      else none
    | _, _ => none
  | _ => none

def cellsAt (m : Mem) (i : Nat) : Option (List Value) :=
  match m.get i with
  | some (.cells cs _ _) => some cs
  | _ => none

def opLoad (t : TypeId) (a : Value) (m : Mem) : Option Value :=
  match a with
  | .pointer (some ⟨i, off, none⟩) => match m.get i with
    | some (.cells cs _ _) => match aggOf P t with
      | some true => match tsize P t with
        | some n => if off + n ≤ cs.length then some (.agg ((cs.drop off).take n).toArray) else none
        | none => none
      | some false => cs[off]?
      | none => none
    | _ => none
  | _ => none

def setCells (cs : List Value) (off : Nat) (vs : List Value) : List Value := cs.take off ++ vs ++ cs.drop (off + vs.length)

def opStore (t : TypeId) (a v : Value) (m : Mem) : Option Mem :=
  match a with
  | .pointer (some ⟨i, off, none⟩) => match m.get i with
    | some (.cells cs e true) =>
      if tsize P t = some v.cells.size ∧ okVal v = true ∧ off + v.cells.size ≤ cs.length then some (m.set i (.cells (setCells cs off v.cells.toList) e true)) else none
    | _ => none
  | _ => none

def intBin (op : BinOp) (k : IntKind) (a b : Int) : Option Value :=
  match op with
  | .add => some (.int k (k.wrap (a + b)))
  | .sub => some (.int k (k.wrap (a - b)))
  | .mul => some (.int k (k.wrap (a * b)))
  | .quo => if b = 0 then none else some (.int k (k.wrap (a.tdiv b)))
  | .rem => if b = 0 then none else some (.int k (a.tmod b))
  | .and => some (.int k (bits .and k a b))
  | .or => some (.int k (bits .or k a b))
  | .xor => some (.int k (bits .xor k a b))
  | .andNot => some (.int k (bits .andNot k a b))
  | .eql => some (.bool (a == b))
  | .neq => some (.bool (a != b))
  | .lss => some (.bool (decide (a < b)))
  | .leq => some (.bool (decide (a ≤ b)))
  | .gtr => some (.bool (decide (a > b)))
  | .geq => some (.bool (decide (a ≥ b)))
  | _ => none

def strBin (op : BinOp) (x y : ByteArray) : Option Value :=
  match op with
  | .add => if x.size + y.size ≤ 9223372036854775807 then some (.string (x ++ y)) else none
  | .eql => some (.bool (x.toList == y.toList))
  | .neq => some (.bool (!(x.toList == y.toList)))
  | .lss => some (.bool (Op.bytesLess x.toList y.toList))
  | _ => none

/-- '==' of two cells by their type. -/
def eqCell (t : TypeId) (x y : Value) : Option Bool :=
  match P.underlying t, x, y with
  | some .bool, .bool a, .bool b => some (a == b)
  | some (.int _), .int k a, .int k' b => if k = k' then some (a == b) else none
  | some .string, .string a, .string b => some (a == b)
  | some (.pointer _), .pointer none, .pointer b => some b.isNone
  | some (.pointer _), .pointer (some _), .pointer none => some false
  | some (.slice _), .slice none _ _, .slice b _ _ => some b.isNone
  | some (.slice _), .slice (some _) _ _, .slice none _ _ => some false
  | some (.map _ _), .map none, .map b => some b.isNone
  | some (.map _ _), .map (some _), .map none => some false
  | some (.func _ _ _), .nilFunc, .nilFunc => some true
  | some (.func _ _ _), .nilFunc, .func _ _ _ => some false
  | some (.func _ _ _), .func _ _ _, .nilFunc => some false
  | _, _, _ => none

/-- A part of a struct. -/
def partOf (t : TypeId) (cs : Array Value) (off : Nat) : Option Value :=
  match aggOf P t with
  | some true => match tsize P t with
    | some n => some (.agg (cs.extract off (off + n)))
    | none => none
  | some false => cs[off]?
  | none => none

def eqFields (eq : TypeId → Value → Value → Option Bool) : List Field → Array Value → Array Value → Option Bool
  | [], _, _ => some true
  | f :: r, xs, ys =>
    if f.name = "_" then eqFields eq r xs ys else
    match partOf P f.type xs f.offset, partOf P f.type ys f.offset with
    | some x, some y => match eq f.type x y with
      | some false => some false
      | some true => eqFields eq r xs ys
      | none => none
    | _, _ => none

def eqIn : Nat → TypeId → Value → Value → Option Bool
  | 0, _, _, _ => none
  | d + 1, t, x, y =>
    match P.underlying t, x, y with
    | some (.struct fields), .agg xs, .agg ys => if P.stoodInHeld t = true then none else eqFields P (eqIn d) fields.toList xs ys
    | some (.struct _), _, _ => none
    | _, _, _ => eqCell P t x y

def binV (op : BinOp) (t : TypeId) (a b : Value) : Option Value :=
  match op, a, b with
  | .shl, .int k x, .int _ y => if y < 0 then none else some (.int k (k.wrap (x * 2 ^ (min y.toNat k.bits))))
  | .shr, .int k x, .int _ y => if y < 0 then none else some (.int k (x.fdiv (2 ^ (min y.toNat k.bits))))
  | op, .int k x, .int k' y => if k = k' then intBin op k x y else none
  | op, .string x, .string y => strBin op x y
  | .eql, .agg x, .agg y => if P.eqGuardType P.depth t = true then none else match eqIn P 40 t (.agg x) (.agg y) with
    | some r => some (.bool r)
    | none => none
  | .neq, .agg x, .agg y => if P.eqGuardType P.depth t = true then none else match eqIn P 40 t (.agg x) (.agg y) with
    | some r => some (.bool (!r))
    | none => none
  | .eql, x, y => match eqCell P t x y with
    | some r => some (.bool r)
    | none => none
  | .neq, x, y => match eqCell P t x y with
    | some r => some (.bool (!r))
    | none => none
  | _, _, _ => none

def unV (op : UnOp) (x : Value) : Option Value :=
  match op, x with
  | .neg, .int k n => some (.int k (k.wrap (0 - n)))
  | .xor, .int k n => some (.int k (bits .xor k (if k.signed then -1 else k.max) n))
  | .not, .bool b => some (.bool !b)
  | _, _ => none

/-- The bytes that cells hold. -/
def bytesOfCells : List Value → Option (List UInt8)
  | [] => some []
  | .int .u8 n :: r => match bytesOfCells r with
    | none => none
    | some l => some (UInt8.ofNat n.toNat :: l)
  | _ :: _ => none

def cellsOfBytes (s : ByteArray) : List Value := s.data.toList.map fun b => .int .u8 b.toNat

/-- The cells that a slice shows (k of its elements, of sz cells each). -/
def shown (sz n : Nat) (x : Value) (m : Mem) : Option (List Value) :=
  match x with
  | .slice none _ _ => if n = 0 then some [] else none
  | .slice (some ⟨i, off, none⟩) _ _ => if n = 0 then some [] else match m.get i with
    | some (.cells cs _ _) => if off + n * sz ≤ cs.length then some ((cs.drop off).take (n * sz)) else none
    | _ => none
  | _ => none

def opConvert (src dst : TypeId) (x : Value) (m : Mem) : Option (Value × Mem) :=
  match P.underlying src, P.underlying dst, x with
  | some _, some (.int k), .int _ n => some (.int k (k.wrap n), m)
  | some _, some .string, .string s => some (.string s, m)
  | some .string, some (.slice e), .string s => match P.underlying e with
    | some (.int .u8) => if s.size ≤ 140737488355328 ∧ tsize P e = some 1 then some (.slice (some ⟨m.next, 0, none⟩) s.size 1, m.new (.cells (cellsOfBytes s) e true)) else none
    | _ => none
  | some (.slice _), some (.slice e), .slice (some ⟨i, off, none⟩) n z => match src == dst, P.underlying e, m.get i with
    | true, some (.int .u8), some (.cells _ _ true) => if 0 < n then some (.slice (some ⟨i, off, none⟩) n z, m) else none
    | _, _, _ => none
  | some (.slice e), some .string, .slice a n z => match P.underlying e with
    | some (.int .u8) => match shown 1 n (.slice a n z) m with
      | some cs => match bytesOfCells cs with
        | some l => some (.string ⟨l.toArray⟩, m)
        | none => none
      | none => none
    | _ => none
  | _, _, _ => none

def boundOf (x : Option Value) (d : Nat) : Option Nat :=
  match x with
  | none => some d
  | some (.int _ i) => if 0 ≤ i then some i.toNat else none
  | some _ => none

def opSlice (t : TypeId) (x : Value) (lo hi : Option Value) : Option Value :=
  match P.underlying t, x with
  | some .string, .string s => match boundOf hi s.size, boundOf lo 0 with
    | some h, some l => if l ≤ h ∧ h ≤ s.size then some (.string (s.extract l h)) else none
    | _, _ => none
  | some (.slice e), .slice a n z => match boundOf hi n, boundOf lo 0 with
    | some h, some l => if l ≤ h ∧ h ≤ n then match a with
        | none => match tsize P e with
          | some _ => some (.slice none 0 0)
          | none => none
        | some ⟨i, off, none⟩ => if tsize P e = some z then some (.slice (some ⟨i, off + l * z, none⟩) (h - l) z) else none
        | some _ => none
      else none
    | _, _ => none
  | _, _ => none

def opFieldAddr (s : TypeId) (x : Value) (f : Nat) : Option Value :=
  match P.underlying s, x with
  | some (.struct fields), .pointer (some ⟨i, off, none⟩) => match fields[f]? with
    | some fd => match tsize P fd.type with
      | some 0 => none
      | some _ => some (.pointer (some ⟨i, off + fd.offset, none⟩))
      | none => none
    | none => none
  | _, _ => none

def opField (t : TypeId) (x : Value) (f : Nat) : Option Value :=
  match P.underlying t, x with
  | some (.struct fields), .agg cs => match fields[f]? with
    | some fd => partOf P fd.type cs fd.offset
    | none => none
  | _, _ => none

def opIndexAddr (t : TypeId) (x j : Value) : Option Value :=
  match P.underlying t, x, j with
  | some (.slice e), .slice (some ⟨i, off, none⟩) n _, .int _ k => match tsize P e with
    | some s => if 0 ≤ k ∧ k < n then some (.pointer (some ⟨i, off + k.toNat * s, none⟩)) else none
    | none => none
  | some (.array n e), .pointer (some ⟨i, off, none⟩), .int _ k => match tsize P e with
    | some s => if 0 ≤ k ∧ k < n then some (.pointer (some ⟨i, off + k.toNat * s, none⟩)) else none
    | none => none
  | _, _, _ => none

def opIndex (t : TypeId) (x j : Value) : Option Value :=
  match P.underlying t, x, j with
  | some .string, .string s, .int _ k => if 0 ≤ k then match s.data[k.toNat]? with
      | some b => some (.int .u8 b.toNat)
      | none => none
    else none
  | some (.array n e), .agg cs, .int _ k => match tsize P e with
    | some s => if 0 ≤ k ∧ k < n then partOf P e cs (k.toNat * s) else none
    | none => none
  | _, _, _ => none

def opMakeSlice (t : TypeId) (l c : Value) (m : Mem) : Option (Value × Mem) :=
  match P.underlying t, l, c with
  | some (.slice e), .int _ n, .int _ n' => match tsize P e, tzero P e, tbytes P e with
    | some s, some z, some b => if n = n' ∧ 0 ≤ n ∧ n.toNat * b ≤ 140737488355328 ∧ n ≤ 9223372036854775807 ∧ zeroOk z = true ∧ 0 < s ∧ z.cells.size = s then
        some (.slice (some ⟨m.next, 0, none⟩) n.toNat s, m.new (.cells (zeroRow z.cells (n.toNat * s)).toList e true)) else none
    | _, _, _ => none
  | _, _, _ => none

/-- What is appended: how many elements, their cells. -/
def addedBy (xt : Option TypeId) (s : Nat) (z x : Value) (m : Mem) : Option (Nat × List Value) :=
  match xt with
  | none => none
  | some xt => match P.underlying xt, x with
    | some (.int _), .int .i64 n => if 0 ≤ n ∧ n ≤ 140737488355328 then some (n.toNat, (zeroRow z.cells (n.toNat * s)).toList) else none
    | some .string, .string b => if s = 1 then some (b.size, cellsOfBytes b) else none
    | some (.slice _), .slice a n q => match shown s n (.slice a n q) m with
      | some cs => some (n, cs)
      | none => none
    | _, _ => none

def opAppend (ts : List TypeId) (xs : List Value) (m : Mem) : Option (Value × Mem) :=
  match ts, xs with
  | st :: tr, [.slice a n q, x] => match P.underlying st with
    | some (.slice e) => match tsize P e, tzero P e, tbytes P e with
      | some s, some z, some b =>
        if zeroOk z = true ∧ 0 < s ∧ 0 < b ∧ z.cells.size = s then match addedBy P tr.head? s z x m with
          | some (k, new) => if k = 0 then some (.slice a n q, m) else
            if (n + k) * b ≤ 140737488355328 then match a with
              | none => some (.slice (some ⟨m.next, 0, none⟩) k s, m.new (.cells new e true))
              | some ⟨i, off, none⟩ => match m.get i with
                | some (.cells cs e' true) => if e' = e ∧ q = s ∧ off + n * s = cs.length then
                    some (.slice (some ⟨m.next, 0, none⟩) (n + k) s, (m.kill i).new (.cells (cs.drop off ++ new) e true)) else none
                | _ => none
              | some _ => none
            else none
          | none => none
        else none
      | _, _, _ => none
    | _ => none
  | _, _ => none

def opLen (t : Option TypeId) (x : Value) : Option Value :=
  match t with
  | none => none
  | some t => match P.underlying t, x with
    | some .string, .string s => some (.int .i64 s.size)
    | some (.slice _), .slice _ n _ => some (.int .i64 n)
    | some (.array n _), _ => some (.int .i64 n)
    | _, _ => none

/-- May it be a key? -/
def keyFit : Nat → TypeId → Value → Bool
  | 0, _, _ => false
  | d + 1, t, v => match P.underlying t, v with
    | some (.struct fields), .agg cs => fields.toList.all fun f => f.name == "_" || match partOf P f.type cs f.offset with
      | some x => keyFit d f.type x
      | none => false
    | some (.struct _), _ => false
    | some (.array _ _), _ => false
    | some (.interface _), _ => false
    | some _, _ => true
    | none, _ => false

/-- Keys whose bits are the same. -/
def keyCell : Value → Value → Bool
  | .bool a, .bool b => a == b
  | .int k a, .int l b => k == l && a == b
  | .string a, .string b => a == b
  | _, _ => false
def keyList : List Value → List Value → Bool
  | [], [] => true
  | x :: r, y :: s => keyCell x y && keyList r s
  | _, _ => false
def keySame : Value → Value → Bool
  | .agg xs, .agg ys => keyList xs.toList ys.toList
  | x, y => keyCell x y

/-- Where a key stands, and its value. -/
def mfind (kt : TypeId) (k : Value) : List (Value × Value) → Nat → Option (Option (Nat × Value))
  | [], _ => some none
  | e :: r, i => match eqIn P 40 kt k e.1 with
    | some true => some (some (i, e.2))
    | some false => mfind kt k r (i + 1)
    | none => none

/-- The entries that a map shows. -/
def mapAt (m : Mem) (x : Value) : Option (List (Value × Value)) :=
  match x with
  | .map none => some []
  | .map (some i) => match m.get i with
    | some (.map es) => some es
    | _ => none
  | _ => none

def opLookup (t : TypeId) (x k : Value) (two : Bool) (m : Mem) : Option Value :=
  match P.underlying t with
  | some (.map kt e) => match mapAt m x with
    | some es => if keyFit P 40 kt k = true then match mfind P kt k es 0 with
        | some (some (_, v)) => some (if two then .tuple #[v, .bool true] else v)
        | some none => match tzero P e with
          | some z => if zeroOk z = true then some (if two then .tuple #[z, .bool false] else z) else none
          | none => none
        | none => none
      else none
    | none => none
  | _ => none

def opMapUpdate (t : TypeId) (x k v : Value) (m : Mem) : Option Mem :=
  match P.underlying t, x with
  | some (.map kt _), .map (some i) => match m.get i with
    | some (.map es) => if keyFit P 40 kt k = true then match mfind P kt k es 0 with
        | some (some (j, _)) => match es[j]? with
          | some e => if keySame e.1 k = true then some (m.set i (.map (es.set j (k, v)))) else none
          | none => none
        | some none => some (m.set i (.map (es ++ [(k, v)])))
        | none => none
      else none
    | _ => none
  | _, _ => none

def opDelete (ts : List TypeId) (xs : List Value) (m : Mem) : Option (Value × Mem) :=
  match ts, xs with
  | t :: _, [.map (some i), k] => match P.underlying t with
    | some (.map kt _) => match m.get i with
      | some (.map es) => if keyFit P 40 kt k = true then match mfind P kt k es 0 with
          | some (some (j, _)) => some (.tuple #[], m.set i (.map (es.eraseIdx j)))
          | some none => some (.tuple #[], m.set i (.map es))
          | none => none
        else none
      | _ => none
    | _ => none
  | _, _ => none

def opMapLen (t : Option TypeId) (x : Value) (m : Mem) : Option Value :=
  match t with
  | none => none
  | some t => match P.underlying t with
    | some (.map _ _) => match mapAt m x with
      | some es => some (.int .i64 es.length)
      | none => none
    | _ => none

def min2V (x y : Value) : Option Value :=
  match x, y with
  | .int k a, .int _ b => some (.int k (if b < a then b else a))
  | _, _ => none
def max2V (x y : Value) : Option Value :=
  match x, y with
  | .int k a, .int _ b => some (.int k (if b > a then b else a))
  | _, _ => none
def foldV (f : Value → Value → Option Value) : Value → List Value → Option Value
  | x, [] => some x
  | x, y :: r => match f x y with
    | some z => foldV f z r
    | none => none

def opCopy (ts : List TypeId) (xs : List Value) (m : Mem) : Option (Value × Mem) :=
  match ts, xs with
  | st :: _, [.slice (some ⟨i, off, none⟩) n q, .slice a k r] => match P.underlying st with
    | some (.slice e) => match tsize P e, m.get i with
      | some s, some (.cells cs e' true) => match shown s (min k n) (.slice a k r) m with
        | some new => if min k n = 0 then some (.int .i64 (min k n : Nat), m) else
          if e' = e ∧ q = s ∧ off + n * s ≤ cs.length then some (.int .i64 (min k n : Nat), m.set i (.cells (setCells cs off new) e true)) else none
        | none => none
      | _, _ => none
    | _ => none
  | _, _ => none

def keep (m : Mem) (v : Option Value) : Option (Value × Mem) :=
  match v with
  | some v => some (v, m)
  | none => none

def evBuiltin (b : Builtin) (ts : List TypeId) (xs : List Value) (m : Mem) : Option (Value × Mem) :=
  match b, xs with
  | .append, xs => opAppend P ts xs m
  | .len, [x] => match opLen P ts.head? x with
    | some v => some (v, m)
    | none => keep m (opMapLen P ts.head? x m)
  | .min, x :: r => match foldV min2V x r with
    | some v => some (v, m)
    | none => none
  | .max, x :: r => match foldV max2V x r with
    | some v => some (v, m)
    | none => none
  | .copy, xs => opCopy P ts xs m
  | .delete, xs => opDelete P ts xs m
  | _, _ => none

def evOpt (e : Env) : Option Operand → Option (Option Value)
  | none => some none
  | some x => match ev1 e x with
    | some v => some (some v)
    | none => none

/-- An operation that calls no function of the program. -/
def evOp (env : Env) (o : Op) (m : Mem) : Option (Value × Mem) :=
  match o with
  | .move x => keep m (ev1 env x)
  | .assign x => keep m (ev1 env x)
  | .pick c a b => match ev1 env c with
    | some (.bool true) => keep m (ev1 env a)
    | some (.bool false) => keep m (ev1 env b)
    | _ => none
  | .alloc t => opAlloc P t m
  | .box t x => match ev1 env x with
    | some v => opBox t v m
    | none => none
  | .build t parts => match evParts env parts.toList with
    | some vs => keep m (opBuild P t vs)
    | none => none
  | .buildSlice t len parts => match evParts env parts.toList with
    | some vs => opBuildSlice P t len vs m
    | none => none
  | .load t a => match ev1 env a with
    | some v => keep m (opLoad P t v m)
    | none => none
  | .store t a x => match ev1 env a, ev1 env x with
    | some v, some u => match opStore P t v u m with
      | some m' => some (undef, m')
      | none => none
    | _, _ => none
  | .nilCheck x => match ev1 env x with
    | some (.pointer (some p)) => some (.pointer (some p), m)
    | some (.func (.func f) a b) => some (.func (.func f) a b, m)
    | _ => none
  | .binOp op t x y _ => match ev1 env x, ev1 env y with
    | some a, some b => keep m (binV P op t a b)
    | _, _ => none
  | .unOp op _ x => match ev1 env x with
    | some a => keep m (unV op a)
    | none => none
  | .convert src dst x => match ev1 env x with
    | some a => opConvert P src dst a m
    | none => none
  | .slice t x lo hi none => match ev1 env x, evOpt env lo, evOpt env hi with
    | some a, some l, some h => keep m (opSlice P t a l h)
    | _, _, _ => none
  | .fieldAddr s x f => match ev1 env x with
    | some a => keep m (opFieldAddr P s a f)
    | none => none
  | .field t x f => match ev1 env x with
    | some a => keep m (opField P t a f)
    | none => none
  | .indexAddr t x j => match ev1 env x, ev1 env j with
    | some a, some b => keep m (opIndexAddr P t a b)
    | _, _ => none
  | .index t x j => match ev1 env x, ev1 env j with
    | some a, some b => keep m (opIndex P t a b)
    | _, _ => none
  | .makeSlice t l c => match ev1 env l, ev1 env c with
    | some a, some b => opMakeSlice P t a b m
    | _, _ => none
  | .extract x i => match ev1 env x with
    | some (.tuple vs) => keep m vs[i]?
    | _ => none
  | .makeFunc (.func f) first captured => if first.size = 0 then match evs env captured.toList with
      | some vs => some (.func (.func f) #[] vs.toArray, m)
      | none => none
    else none
  | .makeMap _ none => some (.map (some m.next), m.new (.map []))
  | .lookup t x k two => match ev1 env x, ev1 env k with
    | some a, some b => keep m (opLookup P t a b two m)
    | _, _ => none
  | .mapUpdate t x k v => match ev1 env x, ev1 env k, ev1 env v with
    | some a, some b, some c => match opMapUpdate P t a b c m with
      | some m' => some (undef, m')
      | none => none
    | _, _, _ => none
  | .call ⟨.builtin .len, args, ts⟩ => match evs env args.toList with
    | some [x] => keep m (opMapLen P ts.toList.head? x m)
    | _ => none
  | _ => none

abbrev CallF := FuncId → List Value → Mem → Option (Value × Mem)

/-- Any operation; 'call' tells what a function of the program comes to. -/
def stepOp (call : CallF) (env : Env) (o : Op) (m : Mem) : Option (Value × Mem) :=
  match o with
  | .call c => match evs env c.args.toList with
    | none => none
    | some xs => match c.callee with
      | .builtin b => evBuiltin P b c.argTypes.toList xs m
      | .value f => match ev1 env f with
        | some (.func (.func f) first cap) => if first.size = 0 then call f (xs ++ cap.toList) m else none
        | _ => none
      | .invoke _ _ => none
  | o => evOp P env o m

/-- Is the operation performed? -/
def guardOf (ops : Array Oper) (env : Env) (o : Oper) : Option Bool :=
  match o.guard with
  | none => some true
  | some (j, want) => match (ops[j]?).bind (·.dst) with
    | none => none
    | some t => match env t with
      | some (.bool b) => some (b == want)
      | some (.tuple _) => some false
      | _ => none

/-- Operations in the order of the list. -/
def runOps (call : CallF) (ops : Array Oper) : List Nat → Env → Mem → Option (Env × Mem)
  | [], env, m => some (env, m)
  | i :: r, env, m => match ops[i]? with
    | none => none
    | some o => match guardOf ops env o with
      | some true => match stepOp P call env o.op m with
        | some (v, m') => runOps call ops r (env.put o.dst v) m'
        | none => none
      | some false => runOps call ops r (env.put o.dst undef) m
      | none => none

/-- Does it change the memory, other than by a new block? -/
def writes : Op → Bool
  | .store _ _ _ => true
  | .call { callee := .builtin .append, .. } => true
  | .call { callee := .builtin .copy, .. } => true
  | .call { callee := .builtin .delete, .. } => true
  | .call { callee := .builtin _, .. } => false
  | .call _ => true
  | .mapUpdate _ _ _ _ => true
  | _ => false

def isMap (P : Program) (t : Option TypeId) : Bool :=
  match t with
  | none => false
  | some t => match P.underlying t with
    | some (.map _ _) => true
    | _ => false

/-- Does what it comes to hang on the memory? -/
def readsMemP (P : Program) : Op → Bool
  | .load _ _ => true
  | .convert src _ _ => match P.underlying src with
    | some (.slice _) => true
    | _ => false
  | .lookup _ _ _ _ => true
  | .call ⟨.builtin .len, _, ts⟩ => isMap P ts.toList.head?
  | _ => false

/-- Equality of values, as far as it is asked. -/
def veqCell : Value → Value → Bool
  | .bool a, .bool b => a == b
  | .int k a, .int l b => decide (k = l) && decide (a = b)
  | .float k a, .float l b => decide (k = l) && decide (a = b)
  | .string a, .string b => decide (a = b)
  | .pointer a, .pointer b => decide (a = b)
  | .slice a n c, .slice b n' c' => decide (a = b) && decide (n = n') && decide (c = c')
  | .map a, .map b => decide (a = b)
  | .nilFunc, .nilFunc => true
  | .nilIface, .nilIface => true
  | _, _ => false
def veqList : List Value → List Value → Bool
  | [], [] => true
  | x :: r, y :: s => veqCell x y && veqList r s
  | _, _ => false
def veq : Value → Value → Bool
  | .agg xs, .agg ys => veqList xs.toList ys.toList
  | x, y => veqCell x y

/-- What a region's operations come to, one by one: what stood before each, and its value, if it is performed. -/
abbrev Tr := List (Env × Mem × Option Value)
def traceOps (call : CallF) (ops : Array Oper) : List Nat → Env → Mem → Option (Tr × Env × Mem)
  | [], env, m => some ([], env, m)
  | i :: r, env, m => match ops[i]? with
    | none => none
    | some o => match guardOf ops env o with
      | some true => match stepOp P call env o.op m with
        | some (v, m') => match traceOps call ops r (env.put o.dst v) m' with
          | some (tr, e, f) => some ((env, m, some v) :: tr, e, f)
          | none => none
        | none => none
      | some false => match traceOps call ops r (env.put o.dst undef) m with
        | some (tr, e, f) => some ((env, m, none) :: tr, e, f)
        | none => none
      | none => none

def memAt (tr : Tr) (fin : Mem) (p : Nat) : Mem :=
  match tr[p]? with
  | some s => s.2.1
  | none => fin

/-- The places of what is performed and writes. -/
def writersOf (ops : Array Oper) (tr : Tr) : List Nat :=
  (List.range ops.size).filter fun i => match ops[i]?, tr[i]? with
    | some o, some (_, _, some _) => writes o.op
    | _, _ => false

def mayStand (bef : Array Nat) (ws : List Nat) (i p : Nat) : Bool :=
  ws.all fun w => if w < p then !((bef.getD w 0).testBit i) else !((bef.getD i 0).testBit w)

/-- A reading stands in an order with each writing. -/
def tidyAt (ops : Array Oper) (bef : Array Nat) (j : Nat) : Bool :=
  match ops[j]? with
  | none => true
  | some o => !readsMemP P o.op || (List.range ops.size).all fun w => match ops[w]? with
    | none => true
    | some q => !writes q.op || (bef.getD j 0).testBit w || (bef.getD w 0).testBit j

/-- What is read in a region whose order is open is the same wherever it may be read. -/
def steady (ops : Array Oper) (tr : Tr) (fin : Mem) : Bool :=
  (List.range ops.size).all fun i => match ops[i]?, tr[i]? with
    | some o, some (env, _, some x) => !readsMemP P o.op || tidyAt P ops (Region.before ops) i || (writersOf ops tr ++ [ops.size]).all fun p =>
        !mayStand (Region.before ops) (writersOf ops tr) i p || match evOp P env o.op (memAt tr fin p) with
          | some (y, _) => veq x y
          | none => false
    | _, _ => true

/-- Each reading and each writing stand in an order. -/
def tidyB (ops : Array Oper) (bef : Array Nat) : Bool := (List.range ops.size).all fun j => tidyAt P ops bef j

def runRegion (call : CallF) (ops : Array Oper) (draw : Bool) (env : Env) (m : Mem) : Option (Env × Mem) :=
  match draw with
  | false => runOps P call ops (List.range ops.size) env m
  | true => if tidyB P ops (Region.before ops) = true then runOps P call ops (List.range ops.size) env m else match traceOps P call ops (List.range ops.size) env m with
    | some (tr, e, f) => if steady P ops tr f = true then some (e, f) else none
    | none => none

inductive Ex where
  | normal
  | exit (id : Nat)
  | ret

def runCode (call : CallF) : Nat → Code → Env → Mem → Option (Ex × Env × Mem)
  | 0, _, _, _ => none
  | n + 1, c, env, m => match c with
    | .skip => some (.normal, env, m)
    | .label _ => some (.normal, env, m)
    | .region _ ops draw => match runRegion P call ops draw env m with
      | some (e, f) => some (.normal, e, f)
      | none => none
    | .seq a b => match runCode call n a env m with
      | some (.normal, e, f) => runCode call n b e f
      | r => r
    | .cond c a b => match ev1 env c with
      | some (.bool true) => runCode call n a env m
      | some (.bool false) => runCode call n b env m
      | _ => none
    | .block id c => match runCode call n c env m with
      | some (.exit i, e, f) => if i = id then some (.normal, e, f) else some (.exit i, e, f)
      | r => r
    | .loop c => match runCode call n c env m with
      | some (.normal, e, f) => runCode call n (.loop c) e f
      | r => r
    | .exit id => some (.exit id, env, m)
    | .scope c => runCode call n c env m
    | .ret => some (.ret, env, m)
    | _ => none

def resOf (env : Env) (m : Mem) : List ResultVar → Option (List Value)
  | [] => some []
  | .tmp t :: r => match env t, resOf env m r with
    | some v, some l => some (v :: l)
    | _, _ => none
  | .cell a t :: r => match env a with
    | none => none
    | some v => match opLoad P t v m, resOf env m r with
      | some v, some l => some (v :: l)
      | _, _ => none

def envOf (xs : List Value) : Env := fun t => xs[t]?

def oneOf : List Value → Value
  | [v] => v
  | l => .tuple l.toArray

/-- A function of the program, called. -/
def callF : Nat → CallF
  | 0, _, _, _ => none
  | n + 1, f, xs, m => match P.funcs[f]? with
    | none => none
    | some fn => match fn.body with
      | none => none
      | some c => if fn.name == "runtime.NumGoroutine" then none else match runCode P (callF n) n c (envOf xs) m with
        | some (.exit _, _, _) => none
        | some (_, e, f) => match resOf P e f fn.results.toList with
          | some l => some (oneOf l, f)
          | none => none
        | none => none

end
end Go.AM
